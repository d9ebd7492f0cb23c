/- Walks that show what functions of the program compute; printed by a program of ours. No condition. -/
import Derived.Test.YtmaamhgjeampmaaGreatYtLe
import Derived.Test.YtmaamhgjeampmaaGreatYtL4c
import Derived.Test.YtmaamhgjeampmaaGreatYtL4b
import Derived.Test.YtmaamhgjeampmaaGreatYtD
set_option maxRecDepth 100000
namespace Go.Proofs.YtmaamhgjeampmaaGreat
open Go.Aw
set_option linter.unusedVariables false
set_option linter.unusedSimpArgs false
set_option maxHeartbeats 4000000
theorem dC (c : Network) (k : List Int) (d : Int) (r : Hop × Bool) (h : Qi c k d = some r) : ACalls Am 108 [.agg (Ab c), .list 1 (k.map rI), .V d] [] (fun x new => x = .tup [.agg (Bc r.1), .v (.bool r.2)] ∧ new = []) := by
 refine Ag Tryz.func108 rfl rfl rfl fun C hC => ?_
 unfold Qi at h
 refine Aa fun X K => nD (nG [] I (nQ (cs := Ab c) (m := 6) I I I dS fun B => nG [] I (nN (cs := [.V 0, .v (.bool false)]) (m := 2) I I I I I dS fun w => Af 1 I (nE ?_))))
 subst K
 refine Al (fun s ob => ∃ (D : Unit), Qi.J1 D = some r ∧ s = [] ∧ ob = [.arr w 107 2 1 [[.V 0, .v (.bool false)]]]) [(6, _)] J1 ?_ ?_
 refine Aq I (nJ ?_)
 obtain ⟨Y, M, E⟩ := Ac h
 clear h
 refine Bz M [(1, _), (2, _), (3, _), (6, _)] J4 (fun (e : Int) s ob => s = [(8, .V e)] ∧ ob = [.arr B 32 6 1 [Ab c], .arr w 107 2 1 [[.V 0, .v (.bool false)]]]) ⟨I, I⟩ ⟨I, J⟩ ⟨[0, 1], I, by decide⟩ ?_
 rintro e N s ob ⟨rfl, rfl⟩ h F
 unfold Qi.B2 at h
 refine Aa fun Z O => Bu [.l 2 (k.length : Int)] I ⟨Bh, J⟩ (Ay h I ?_ ?_)
 intro P h
 refine nI ?_
 subst O
 refine nH (nJ (Al (fun s ob => ∃ (y : Bool), Qi.J3 k e y = some N ∧ s = [(46, .v (.bool y))] ∧ ob = [.arr B 32 6 1 [Ab c], .arr w 107 2 1 [[.V 0, .v (.bool false)]]]) [(1, _), (2, _), (3, _), (6, _), (8, _)] J5 ?_ ?_))
 obtain ⟨a, ⟨n, t⟩, h⟩ := Bk h
 refine nD (Ap 6 [.x 2 a.1 (rI a.2)] I ⟨⟨n, Ah t⟩, J⟩ ?_)
 rcases bt (decide (a.2 > 0)) with f | f
 replace h := B0 f h
 obtain ⟨b, ⟨G, H⟩, h⟩ := Bk h
 refine Ad 20 I f (Ap 10 [.o 1 0, .x 3 b.1 (Ar b.2)] I ⟨⟨G, Ah H⟩, I, J⟩ ?_)
 rcases bt ((b.2.From == d)) with g | g
 replace h := B0 g h
 refine Ad 30 I g (Af 6 I (Cq I I dS (Cq I I dS (Cq I I dS (Cq I I dS (Cq I I dS (Cq I I dS (Cq I I dS (Cq I I dS (Af 2 I (nE ?_)))))))))))
 exact lg ⟨true, h, I2⟩ [0, 1]
 replace h := Ca g h
 refine Ad 30 I g (Ap 6 [.x 2 a.1 (rI a.2)] I ⟨⟨n, Ah t⟩, J⟩ ?_)
 rcases bt (decide (a.2 < 0)) with i | i
 replace h := B0 i h
 refine Ad 36 I i (Ap 10 [.o 1 0, .x 3 b.1 (Ar b.2)] I ⟨⟨G, Ah H⟩, I, J⟩ (nE ?_))
 exact lg ⟨(b.2.To == d), h, I2⟩ [0, 1]
 replace h := Ca i h
 refine Ad 36 I i (Af 10 I (nE ?_))
 exact lg ⟨false, h, I2⟩ [0, 1]
 replace h := Ca f h
 refine Ad 20 I f ?_
 rcases bt (decide (a.2 < 0)) with j | j
 replace h := B0 j h
 obtain ⟨A, ⟨Q, R⟩, h⟩ := Bk h
 refine Ap 16 [.x 12 a.1 (rI a.2)] I ⟨⟨n, Ah t⟩, J⟩ (Ad 36 I j (Ap 10 [.o 1 0, .x 3 A.1 (Ar A.2)] I ⟨⟨Q, Ah R⟩, I, J⟩ (nE ?_)))
 exact lg ⟨(A.2.To == d), h, I2⟩ [0, 1]
 replace h := Ca j h
 refine Ap 16 [.x 12 a.1 (rI a.2)] I ⟨⟨n, Ah t⟩, J⟩ (Ad 36 I j (Af 10 I (nE ?_)))
 exact lg ⟨false, h, I2⟩ [0, 1]
 rintro s ob ⟨y, h, rfl, rfl⟩
 unfold Qi.J3 at h
 refine Ay h I ?_ ?_
 intro S h
 refine nH ?_
 obtain ⟨u, ⟨U, W⟩, h⟩ := Bk h
 refine nD (Ap 6 [.x 3 u.1 (rI u.2)] I ⟨⟨U, Ah W⟩, J⟩ (Ck (Ao (l := [.V e, .v (.bool (decide (u.2 < 0)))]) Hp I) I (nG [1] I (Ax 1 0 0 [[.V e, .v (.bool (decide (u.2 < 0)))]] I (Af 1 I (nE ?_))))))
 obtain rfl := F _ (oi h).symm
 replace h := E
 replace h := Dh h
 refine Cb [1] I ?_
 obtain rfl := oi h
 exact nK ⟨.inr I, [_, _], [], ⟨⟨0, _, _, _, _, _, _, _, I5⟩, I, J⟩, Cf, I2⟩
 intro S h
 refine nI (nD (Af 3 I ?_))
 obtain rfl := oi h
 refine nE ?_
 exact ⟨_, _, _, I, I2, J5, [0, 1], I, by decide⟩
 intro P h
 obtain rfl := F _ (oi h).symm
 replace h := E
 replace h := Do h
 refine nO ?_
 exact lg ⟨(), h, I2⟩ [1]
 rintro s ob ⟨D, h, rfl, rfl⟩
 unfold Qi.J1 at h
 refine nH (nD (Ck (Ao (l := [.V 0, .v (.bool false)]) Hp I) I (nG [0] I (Ax 0 0 0 [[.V 0, .v (.bool false)]] I (Af 1 I (nE ?_))))))
 obtain rfl := oi h
 exact nK ⟨.inr I, [_, _], [], ⟨⟨0, _, _, _, _, _, _, _, I5⟩, I, J⟩, Cf, I2⟩
theorem bR (a : Int) (r : Int) (h : Nc a = r) : ACalls Am 109 [.V a] [] (fun x new => x = .V r ∧ new = []) := by
 refine Ag Tryz.func109 rfl rfl rfl fun C hC => ?_
 unfold Nc at h
 refine Aq I (Aq I ?_)
 obtain rfl := h
 exact nK pr
theorem Xm (e : Network) (E : List Int) (y : List Int) (b : Int) (r : Path × Bool) (h : M7 e E y b = some r) : ACalls Am 68 [.agg (Ab e), .list 1 (E.map rI), .list 1 (y.map rI), .V b] [] (fun x new => ∃ (P : Value), x = .tup [.agg [.V r.1.In, .V r.1.Out, .v P, .V r.1.Rate], .v (.bool r.2)] ∧ new = [.us P 107 2 (r.1.Hops.map Bc)]) := by
 refine Ag Tryz.func68 rfl rfl rfl fun C hC => ?_
 unfold M7 at h
 refine Aa fun y2 Y => nD (nG [] I (nQ (cs := Ab e) (m := 6) I I I dS fun n => nG [] I (nN (cs := [.V 0, .V 0, .N, .V 0]) (m := 4) I I I I I dS fun f => Af 1 I (nE ?_))))
 subst Y
 refine Aa fun y5 Z => ?_
 obtain ⟨A, ⟨aa, ab⟩, h⟩ := Bk h
 refine nD (Ap 5 [.x 3 A.1 (rI A.2)] I ⟨⟨aa, Ah ab⟩, J⟩ (Ck (Ao (l := [.V b, .V 0, .N, .V A.2]) Rm I) I (nG [] I (nN (cs := [.V 0, .V 0, .N, .V 0]) (m := 4) I I I I I dS fun g => nG [2] I (Ax 2 0 0 [[.V b, .V 0, .N, .V A.2]] I (nE ?_))))))
 subst Z
 refine Aa fun y9 ac => ?_
 obtain ⟨Q, ⟨ad, ae⟩, h⟩ := Bk h
 refine I6 [.o 1 0, .x 3 Q.1 (Bj Q.2)] I ⟨⟨ad, Ah ae⟩, I, J⟩ ?_
 subst ac
 refine Al (fun s ob => ∃ (i : (List Hop) × Int) (j : Value), M7.J1 b i = some r ∧ s = [] ∧ ob = [.arr f 52 4 1 [[.V 0, .V 0, .N, .V 0]], .arr g 52 4 1 [[.V b, .V 0, .v j, .V i.2]], .us j 107 2 (i.1.map Bc)]) [(8, _), (10, _)] J2 ?_ ?_
 refine Aq I (nJ (nM (Bo 107 2) ?_))
 obtain ⟨bc, af, F⟩ := Ac h
 clear h
 refine Bz af [(1, _), (2, _), (4, _), (8, _), (10, _)] J5 (fun (a : (List Hop) × Int × Int × Int) s ob => ∃ (d : Value), s = [(11, .V a.2.2.1), (12, .V a.2.2.2)] ∧ ob = [.arr n 32 6 1 [Ab e], .arr f 52 4 1 [[.V 0, .V 0, .N, .V 0]], .arr g 52 4 1 [[.V b, .V 0, .v d, .V a.2.1]], .us d 107 2 (a.1.map Bc)]) ⟨(.slice none 0 0), I2⟩ ⟨I, I, J⟩ ⟨[0, 1, 2, 3], I, by decide⟩ ?_
 rintro a R s ob ⟨d, rfl, rfl⟩ h G
 unfold M7.B2 at h
 refine Aa fun bd ag => Bu [.o 2 0, .l 3 (e.Nodes.length : Int)] I ⟨Bh, I, J⟩ (Ay h I ?_ ?_)
 intro ah h
 refine nI ?_
 subst ag
 refine Al (fun s ob => ∃ (t : (List Hop) × Int × Int) (B : Value), M7.J3 a t = some R ∧ s = [(11, .V t.2.2)] ∧ ob = [.arr n 32 6 1 [Ab e], .arr f 52 4 1 [[.V 0, .V 0, .N, .V 0]], .arr g 52 4 1 [[.V b, .V 0, .v B, .V t.2.1]], .us B 107 2 (t.1.map Bc)]) [(1, _), (2, _), (4, _), (8, _), (10, _), (12, _)] J6 ?_ ?_
 refine nJ (Al (fun s ob => ∃ (S : Unit), M7.J4 e E b a S = some R ∧ s = [] ∧ ob = [.arr n 32 6 1 [Ab e], .arr f 52 4 1 [[.V 0, .V 0, .N, .V 0]], .arr g 52 4 1 [[.V b, .V 0, .v d, .V a.2.1]], .us d 107 2 (a.1.map Bc)]) [(1, _), (2, _), (4, _), (8, _), (10, _), (11, _), (12, _)] J7 ?_ ?_)
 refine Aq I (nJ ?_)
 obtain ⟨be, ai, U⟩ := Ac h
 clear h
 refine Bz ai [(1, _), (2, _), (4, _), (8, _), (10, _), (11, _), (12, _)] J7 (fun (k : Int) s ob => s = [(13, .V k)] ∧ ob = [.arr n 32 6 1 [Ab e], .arr f 52 4 1 [[.V 0, .V 0, .N, .V 0]], .arr g 52 4 1 [[.V b, .V 0, .v d, .V a.2.1]], .us d 107 2 (a.1.map Bc)]) ⟨I, I⟩ ⟨I, J⟩ ⟨[0, 1, 2, 3], I, by decide⟩ ?_
 rintro k aj s ob ⟨rfl, rfl⟩ h W
 unfold M7.B5 at h
 refine Aa fun bf ak => Bu [.l 2 (y.length : Int)] I ⟨Bh, J⟩ (Ay h I ?_ ?_)
 intro al h
 refine nI ?_
 subst ak
 refine nH (nJ (Al (fun s ob => ∃ (H : Bool), M7.J6 y b a k H = some aj ∧ s = [(55, .v (.bool H))] ∧ ob = [.arr n 32 6 1 [Ab e], .arr f 52 4 1 [[.V 0, .V 0, .N, .V 0]], .arr g 52 4 1 [[.V b, .V 0, .v d, .V a.2.1]], .us d 107 2 (a.1.map Bc)]) [(1, _), (2, _), (4, _), (8, _), (10, _), (11, _), (12, _), (13, _)] J8 ?_ ?_))
 obtain ⟨K, ⟨am, an⟩, h⟩ := Bk h
 refine nD (Ap 9 [.o 1 0, .x 3 K.1 (Bj K.2)] I ⟨⟨am, Ah an⟩, I, J⟩ ?_)
 rcases bt ((K.2.Node == a.2.2.1)) with u | u
 replace h := B0 u h
 obtain ⟨M, ⟨ao, aq⟩, h⟩ := Bk h
 refine Ad 49 I u (Ap 6 [.x 2 M.1 (rI M.2)] I ⟨⟨ao, Ah aq⟩, J⟩ (nE ?_))
 exact lg ⟨decide (M.2 < 0), h, I2⟩ [0, 1, 2, 3]
 replace h := Ca u h
 refine Ad 49 I u (Af 6 I (nE ?_))
 exact lg ⟨false, h, I2⟩ [0, 1, 2, 3]
 rintro s ob ⟨H, h, rfl, rfl⟩
 unfold M7.J6 at h
 refine Ay h I ?_ ?_
 intro ar h
 refine Aa fun bg au => nD (Af 2 I (nG [2] I (Ax 2 0 1 [[.V b, .V k, .v d, .V a.2.1]] I (nE ?_))))
 subst au
 refine nH ?_
 obtain ⟨D, ⟨av, aw⟩, h⟩ := Bk h
 refine Bw (sl 9 0 (.drop 9 .nil)) [2] [_] I (By 9 [.o 1 0, .x 4 D.1 (rI D.2)] I ⟨⟨av, Ah aw⟩, I, J⟩ (nW [2] I I I (Ax 2 0 3 [[.V b, .V k, .v d, .V (min a.2.1 (wr (0 - D.2)))]] I (Ak (nE (nH (nD (Ap 1 [.o 0 2] I J1 (nG [1] I (Ax 1 0 0 [[.V b, .V k, .v d, .V (min a.2.1 (wr (0 - D.2)))]] I (Af 1 I (nE ?_))))))))))))
 obtain rfl := W _ (oi h).symm
 replace h := U
 replace h := Dh h
 obtain rfl := G _ (oi h).symm
 replace h := F
 replace h := Dh h
 refine Cb [3, 1] I ?_
 obtain rfl := oi h
 exact nK ⟨.inr I, [_, _], [.us d 107 2 (a.1.map Bc)], ⟨⟨1, _, _, _, _, _, _, _, I5⟩, I, J⟩, Dn I (Cf), ⟨d, I2⟩⟩
 intro ar h
 refine nI (nD (Af 3 I ?_))
 obtain rfl := oi h
 refine nE ?_
 exact ⟨_, _, _, I, I2, J8, [0, 1, 2, 3], I, by decide⟩
 intro al h
 obtain rfl := W _ (oi h).symm
 replace h := U
 replace h := Do h
 refine nO ?_
 exact lg ⟨(), h, I2⟩ [0, 1, 2, 3]
 rintro s ob ⟨S, h, rfl, rfl⟩
 unfold M7.J4 at h
 refine Aa fun bh ax => ?_
 obtain ⟨X, ay, h⟩ := Ac h
 refine nD (Ap 3 [.o 0 0] I J1 (Cg (dC _ _ _ _ ay) (Af 3 I (nG [] I (nN (cs := [.V 0, .v (.bool false)]) (m := 2) I I I I I dS fun bi => nG [4] I (Ax 4 0 0 [Bc X.1] I (Af 1 I (nE ?_))))))))
 subst ax
 refine Aa fun bj az => Aq I (Ay h I ?_ ?_)
 intro a0 h
 refine nH (nD (Ap 1 [.o 0 2] I J1 (nG [1] I (Ax 1 0 0 [[.V b, .V 0, .v d, .V a.2.1]] I (Af 1 I (nE ?_))))))
 obtain rfl := G _ (oi h).symm
 replace h := F
 replace h := Dh h
 refine Cb [3, 1] I ?_
 obtain rfl := oi h
 exact nK ⟨.inr I, [_, _], [.us d 107 2 (a.1.map Bc)], ⟨⟨1, _, _, _, _, _, _, _, I5⟩, I, J⟩, Dn I (Cf), ⟨d, I2⟩⟩
 intro a0 h
 refine nI ?_
 subst az
 refine Aa fun bk a1 => ?_
 obtain ⟨a2, a3, h⟩ := Ac h
 refine nD (Ap 3 [.o 1 2, .o 2 4] I J2 (nG [] I (nR 2 (([X.1] : List Hop).map Bc) (nG [3] I (Bf 3 I a3 fun O => Af 1 I (nZ 3 I fun a4 => nG [2] I (nU 2 0 2 (es' := [[.V b, .V 0, .v O, .V a.2.1]]) I I I I I I (Ai a4) I (Bs I) I I (nE ?_))))))))
 subst a1
 refine nH ?_
 obtain ⟨w, ⟨a5, a6⟩, h⟩ := Bk h
 refine Bw (sl 7 0 (.act 7 (.still 8 (.still 9 (.drop 10 .nil))))) [2, 4] [_, _] I (By 7 [.o 1 0, .o 4 1, .x 5 w.1 (rI w.2)] I ⟨⟨a5, Ah a6⟩, I, I, J⟩ (Ee I (bR w.2 _ I) (Bm 2 I (nW [2] I I I (Ax 2 0 3 [[.V b, .V 0, .v O, .V (min a.2.1 (Nc w.2))]] I (Ak (nE ?_)))))))
 obtain ⟨a7, a8, h⟩ := Ac h
 refine nD (Ap 2 [.o 0 0, .o 1 4] I J2 (Cg (S9 _ _ _ a8) (Af 4 I (nE ?_))))
 exact lg ⟨(a2, (min a.2.1 (Nc w.2)), a7.2), O, h, I2⟩ [0, 1, 2, 3]
 rintro s ob ⟨t, B, h, rfl, rfl⟩
 unfold M7.J3 at h
 refine nD (Af 3 I ?_)
 obtain rfl := oi h
 refine nE ?_
 exact ⟨_, _, _, I, ⟨B, I2⟩, J7, [0, 1, 2, 3], I, by decide⟩
 intro ah h
 obtain rfl := G _ (oi h).symm
 replace h := F
 replace h := Do h
 refine nO ?_
 exact lg ⟨(a.1, a.2.1), d, h, I2⟩ [1, 2, 3]
 rintro s ob ⟨i, j, h, rfl, rfl⟩
 unfold M7.J1 at h
 refine nH (nD (Ap 1 [.o 0 1] I J1 (nG [0] I (Ax 0 0 0 [[.V b, .V 0, .v j, .V i.2]] I (Af 1 I (nE (Cb [2, 0] I ?_)))))))
 obtain rfl := oi h
 exact nK ⟨.inr I, [_, _], [.us j 107 2 (i.1.map Bc)], ⟨⟨1, _, _, _, _, _, _, _, I5⟩, I, J⟩, Dn I (Cf), ⟨j, I2⟩⟩
theorem S8 (g : Network) (X : Plan) (r : (List Path) × Int) (h : Im g X = some r) : ACalls Am 20 [.agg (Ab g), .agg (As X)] [] (fun x new => ∃ (u0 : Value), x = .tup [.v u0, .V r.2] ∧ new = [.us u0 52 4 (r.1.map Aj)]) := by
 refine Ag Tryz.func20 rfl rfl rfl fun C hC => ?_
 unfold Im at h
 refine Aa fun y1 al => nD (nG [] I (nQ (cs := Ab g) (m := 6) I I I dS fun n => nG [] I (nQ (cs := As X) (m := 3) I I I dS fun b3 => Af 2 I (nE ?_))))
 subst al
 refine Aa fun y4 am => nH ?_
 obtain ⟨r5, an, h⟩ := Ac h
 refine nD (Ap 2 [.o 0 0, .o 1 1] I J2 (Cg (Gy _ _ _ an) (Af 1 I (nE (Aq I (Ay h I ?_ ?_))))))
 intro ao h
 refine Aq I (nM (Bo 52 4) (Cb [2] I ?_))
 obtain rfl := oi h
 exact nK ⟨.inr I, [_, _], [.us (.slice none 0 0) 52 4 ([].map Aj)], J2, Dn I (Cf), ⟨(.slice none 0 0), I2⟩⟩
 intro ao h
 refine nI ?_
 subst am
 refine Aa fun y8 aq => ?_
 obtain ⟨b4, ar, h⟩ := Ac h
 refine nD (nG [] I (nP (sz := 1) (es := ([] : List Int).map rI) I I I I I I I I I I I dS fun v9 => Ap 2 [.o 1 1] I J1 (nG [2] I (Bf 2 I ar fun t => Af 1 I (nE ?_)))))
 subst aq
 refine Aa fun b6 au => ?_
 obtain ⟨b7, av, h⟩ := Ac h
 refine nD (nG [] I (nP (sz := 1) (es := ([] : List Int).map rI) I I I I I I I I I I I dS fun b8 => Ap 2 [.o 1 1] I J1 (nG [3] I (Bf 3 I av fun u => Af 1 I (nE ?_)))))
 subst au
 refine Aq I (Al (fun s ob => ∃ (Q : List Path) (H : Value), Im.J1 Q = some r ∧ s = [(9, .v H)] ∧ ob = [.us H 52 4 (Q.map Aj)]) [] J ?_ ?_)
 refine Aq I (nJ (nM (Bo 52 4) ?_))
 obtain ⟨b9, aw, ab⟩ := Ac h
 clear h
 refine Bz aw [(2, _), (7, _), (8, _)] J3 (fun (w : (List Int) × (List Int) × (List Path) × Int) s ob => ∃ (M : Value), s = [(9, .v M), (10, .V w.2.2.2)] ∧ ob = [.arr n 32 6 1 [Ab g], .us t 3 1 (w.1.map rI), .us u 3 1 (w.2.1.map rI), .us M 52 4 (w.2.2.1.map Aj)]) ⟨(.slice none 0 0), I2⟩ ⟨I, I, J⟩ ⟨[0, 2, 3, 4], I, by decide⟩ ?_
 rintro w ax s ob ⟨M, rfl, rfl⟩ h ac
 unfold Im.B2 at h
 refine Aa fun ca ay => nH (nD (Af 2 I (nS (Cn 2 I I I I) I (Af 1 I (nE (Ay h I ?_ ?_))))))
 intro az h
 refine nI ?_
 subst ay
 refine Al (fun s ob => ∃ (O : (List Int) × (List Int) × (List Path)) (R : Value), Im.J3 w O = some ax ∧ s = [(9, .v R)] ∧ ob = [.arr n 32 6 1 [Ab g], .us t 3 1 (O.1.map rI), .us u 3 1 (O.2.1.map rI), .us R 52 4 (O.2.2.map Aj)]) [(2, _), (7, _), (8, _), (10, _)] J4 ?_ ?_
 refine nJ (nJ ?_)
 obtain ⟨cb, a0, ad⟩ := Ac h
 clear h
 refine Bz a0 [(2, _), (7, _), (8, _), (10, _)] J4 (fun (b : (List Int) × (List Int) × (List Path)) s ob => ∃ (k : Value), s = [(9, .v k)] ∧ ob = [.arr n 32 6 1 [Ab g], .us t 3 1 (b.1.map rI), .us u 3 1 (b.2.1.map rI), .us k 52 4 (b.2.2.map Aj)]) ⟨M, I2⟩ ⟨I, J⟩ ⟨[0, 1, 2, 3], I, by decide⟩ ?_
 rintro b a1 s ob ⟨k, rfl, rfl⟩ h ae
 unfold Im.B4 at h
 refine Aa fun cc a2 => nH ?_
 obtain ⟨Y, ⟨a3, af⟩, h⟩ := Bk h
 refine nD (Af 2 I (nS (Bi 2 (m := Y.1) I I I I I I I a3 (Ah af)) I (nS (Ba 2 Y.1 0 I I I (Ah af) I (y := .V Y.2) I) I (Af 1 I (nE (Ay h I ?_ ?_))))))
 intro a4 h
 refine nI ?_
 subst a2
 refine nJ (Aa fun cd a5 => ?_)
 obtain ⟨a, a6, h⟩ := Ac h
 refine nD (Ap 4 [.o 0 0] I J1 (nG [] I (F9 I (.refl _) I I (.cons (.refl _) (.cons (.us 1 I) (.cons (.us 2 I) (.rest _)))) I (Xm _ _ _ _ _ a6) dS (by rintro _ _ ⟨_, rfl, rfl⟩; exact ⟨rfl, by intro p hp; simp only [List.mem_cons, List.not_mem_nil, or_false] at hp; rcases hp with rfl <;> exact F8 fun _ => rfl⟩) ?_)))
 rintro _ _ ⟨l, rfl, rfl⟩
 refine Af 3 I (nG [] I (nN (cs := [.V 0, .V 0, .N, .V 0]) (m := 4) I I I I I dS fun S => nG [5] I (Ax 5 0 0 [[.V a.1.In, .V a.1.Out, .v l, .V a.1.Rate]] I (Af 1 I (nE ?_)))))
 subst a5
 refine Aa fun ce a7 => Dt 60 ((!a.2) || (((b.2.2.length : Int) == 64) || decide ((a.1.Hops.length : Int) > 32))) ?_ ?_
 refine nD (Af 3 I ?_)
 rcases bt ((!a.2)) with B | B
 refine Ad 50 I B (Af 10 I (nE ?_))
 exact jf (by simp only [B, bz]) I I I2
 refine Ad 50 I B (Af 1 I (Br I I I (nS (Cn 3 I I I I) I (Af 3 I ?_))))
 rcases bt (((b.2.2.length : Int) == 64)) with P | P
 refine Ad 55 I P (Af 5 I (nE ?_))
 exact jf (by simp only [B, P, bz]) I I I2
 refine Ad 55 I P (Ap 2 [.o 1 5] I J1 (Br I I I (nS (Cn 4 I I I I) I (Af 2 I (nE ?_)))))
 exact jf (by simp only [B, P, bz]) I I I2
 refine Ay h I ?_ ?_
 intro a8 h
 refine Aq I ?_
 obtain rfl := ae _ (oi h).symm
 replace h := ad
 replace h := Dh h
 obtain rfl := ac _ (oi h).symm
 replace h := ab
 replace h := Dh h
 refine nM (Bo 52 4) (Cb [6] I ?_)
 obtain rfl := oi h
 exact nK ⟨.inr I, [_, _], [.us (.slice none 0 0) 52 4 ([].map Aj)], J2, Dn I (Cf), ⟨(.slice none 0 0), I2⟩⟩
 intro a8 h
 refine nI ?_
 subst a7
 refine Aa fun cf a9 => ?_
 obtain ⟨e, ⟨ag, D⟩, h⟩ := Bk h
 refine Ce 2 e.1 I D fun ba => Ce 2 e.1 I D fun bb => Bw (sl 12 0 (.drop 12 .nil)) [5, 2] [_, _] I (By 6 [.o 2 0, .o 5 0] I J2 (nV I (Bl (m := e.1) I I I I I ba I ag D) I (AP.o I (Ba 1 e.1 0 I I I (Ah D) I (y := .V e.2) I) I (By 3 [.o 1 0] I J1 (nV I (Bl (m := e.1) I I I I I bb I ag D) I (nW [2] I I I (Ci 2 e.1 0 I I I (Ah D) I I I I (Bs I) I (Dp (x := wr (e.2 - a.1.Rate)) I) (Ak (nE ?_)))))))))
 subst a9
 refine Aa fun cg bc => ?_
 obtain ⟨f, ⟨ah, E⟩, h⟩ := Bk h
 refine Ce 2 f.1 I E fun bd => Ce 2 f.1 I E fun be => Bw (sl 12 0 (.drop 12 .nil)) [5, 2] [_, _] I (By 6 [.o 2 0, .o 5 0] I J2 (nV I (Bl (m := f.1) I I I I I bd I ah E) I (AP.o I (Ba 1 f.1 0 I I I (Ah E) I (y := .V f.2) I) I (By 3 [.o 1 0] I J1 (nV I (Bl (m := f.1) I I I I I be I ah E) I (nW [2] I I I (Ci 2 f.1 0 I I I (Ah E) I I I I (Bs I) I (Dp (x := wr (f.2 + a.1.Rate)) I) (Ak (nE ?_)))))))))
 subst bc
 refine Al (fun s ob => ∃ (U : List Int), Im.J5 b a e f U = some a1 ∧ s = [] ∧ ob = [.arr n 32 6 1 [Ab g], .us t 3 1 (U.map rI), .us u 3 1 (((b.2.1.set e.1 (wr (e.2 - a.1.Rate))).set f.1 (wr (f.2 + a.1.Rate))).map rI), .us k 52 4 (b.2.2.map Aj), .us l 107 2 (a.1.Hops.map Bc), .arr S 52 4 1 [[.V a.1.In, .V a.1.Out, .v l, .V a.1.Rate]]]) [(2, _), (7, _), (8, _), (9, _), (10, _), (11, _)] J6 ?_ ?_
 refine Aq I (nJ ?_)
 obtain ⟨ci, bf, bg⟩ := Ac h
 clear h
 refine Bz bf [(2, _), (7, _), (8, _), (9, _), (10, _), (11, _)] J6 (fun (A : (List Int) × Int) s ob => s = [(13, .V A.2)] ∧ ob = [.arr n 32 6 1 [Ab g], .us t 3 1 (A.1.map rI), .us u 3 1 (((b.2.1.set e.1 (wr (e.2 - a.1.Rate))).set f.1 (wr (f.2 + a.1.Rate))).map rI), .us k 52 4 (b.2.2.map Aj), .us l 107 2 (a.1.Hops.map Bc), .arr S 52 4 1 [[.V a.1.In, .V a.1.Out, .v l, .V a.1.Rate]]]) ⟨I, I⟩ ⟨I, J⟩ ⟨[0, 1, 2, 3, 4, 5], I, by decide⟩ ?_
 rintro A bh s ob ⟨rfl, rfl⟩ h bi
 unfold Im.B6 at h
 refine Aa fun cj bj => nH (nD (Ap 3 [.o 2 5] I J1 (nS (Cn 4 I I I I) I (Af 1 I (nE (Ay h I ?_ ?_))))))
 intro bk h
 refine nI ?_
 subst bj
 refine Al (fun s ob => ∃ (Z : List Int), Im.J7 A Z = some bh ∧ s = [] ∧ ob = [.arr n 32 6 1 [Ab g], .us t 3 1 (Z.map rI), .us u 3 1 (((b.2.1.set e.1 (wr (e.2 - a.1.Rate))).set f.1 (wr (f.2 + a.1.Rate))).map rI), .us k 52 4 (b.2.2.map Aj), .us l 107 2 (a.1.Hops.map Bc), .arr S 52 4 1 [[.V a.1.In, .V a.1.Out, .v l, .V a.1.Rate]]]) [(2, _), (7, _), (8, _), (9, _), (10, _), (11, _), (13, _)] J7 ?_ ?_
 refine nJ (Aa fun ck bl => ?_)
 obtain ⟨W, ⟨bm, ai⟩, h⟩ := Bk h
 refine nD (Ap 3 [.o 1 5] I J1 (nS (Bi 4 (m := W.1) I I I I I I I bm (Ah ai)) I (nS (Ba 4 W.1 0 I I I (Ah ai) I (y := .agg (Bc W.2)) I) I (nG [] I (nN (cs := [.V 0, .v (.bool false)]) (m := 2) I I I I I dS fun cl => nG [6] I (Ax 6 0 0 [Bc W.2] I (nE ?_)))))))
 subst bl
 refine Bu [.o 1 6] I J1 (Ay h I ?_ ?_)
 intro bn h
 obtain ⟨i, ⟨aj, F⟩, h⟩ := Bk h
 refine Ce 1 i.1 I F fun bo => Ce 1 i.1 I F fun bp => Bw (sl 12 0 (.drop 12 .nil)) [6, 1, 5] [_, _, _] I (By 6 [.o 2 0, .o 5 0] I J2 (nV I (Bl (m := i.1) I I I I I bo I aj F) I (AP.o I (Ba 1 i.1 0 I I I (Ah F) I (y := .V i.2) I) I (By 3 [.o 1 2] I J1 (nV I (Bl (m := i.1) I I I I I bp I aj F) I (nW [1] I I I (Ci 1 i.1 0 I I I (Ah F) I I I I (Bs I) I (Dp (x := wr (i.2 + a.1.Rate)) I) (Ak (nE ?_)))))))))
 exact lg ⟨(A.1.set i.1 (wr (i.2 + a.1.Rate))), h, I2⟩ [0, 1, 2, 3, 4, 5]
 intro bn h
 obtain ⟨j, ⟨ak, G⟩, h⟩ := Bk h
 refine Ce 1 j.1 I G fun bq => Ce 1 j.1 I G fun br => Bw (sl 12 0 (.drop 12 .nil)) [6, 1, 5] [_, _, _] I (By 6 [.o 2 0, .o 5 0] I J2 (nV I (Bl (m := j.1) I I I I I bq I ak G) I (AP.o I (Ba 1 j.1 0 I I I (Ah G) I (y := .V j.2) I) I (By 3 [.o 1 2] I J1 (nV I (Bl (m := j.1) I I I I I br I ak G) I (nW [1] I I I (Ci 1 j.1 0 I I I (Ah G) I I I I (Bs I) I (Dp (x := wr (j.2 - a.1.Rate)) I) (Ak (nE ?_)))))))))
 exact lg ⟨(A.1.set j.1 (wr (j.2 - a.1.Rate))), h, I2⟩ [0, 1, 2, 3, 4, 5]
 rintro s ob ⟨Z, h, rfl, rfl⟩
 unfold Im.J7 at h
 refine nD (Af 3 I ?_)
 obtain rfl := oi h
 refine nE ?_
 exact ⟨_, _, _, I, I2, J7, [0, 1, 2, 3, 4, 5], I, by decide⟩
 intro bk h
 obtain rfl := bi _ (oi h).symm
 replace h := bg
 refine nO ?_
 exact lg ⟨A.1, h, I2⟩ [0, 1, 2, 3, 4, 5]
 rintro s ob ⟨U, h, rfl, rfl⟩
 unfold Im.J5 at h
 obtain ⟨cm, bs, h⟩ := Ac h
 refine nD (Ap 2 [.o 1 5] I J1 (oA (A0 [4] (K := [.us l 107 2 (a.1.Hops.map Bc)]) I [(124, .agg [.V a.1.In, .V a.1.Out, .list 2 (a.1.Hops.map Bc), .V a.1.Rate])] ⟨⟨_, I, .agg (.cons (.refl _) (.cons (.refl _) (.cons (.us 0 I) (.rest _))))⟩, J⟩ (ob' := [.arr n 32 6 1 [Ab g], .us t 3 1 (U.map rI), .us u 3 1 (((b.2.1.set e.1 (wr (e.2 - a.1.Rate))).set f.1 (wr (f.2 + a.1.Rate))).map rI), .us k 52 4 (b.2.2.map Aj), .arr S 52 4 1 [Aj a.1]]) (.cons (.same _) (.cons (.same _) (.cons (.same _) (.cons (.same _) (.cons (.arr (.cons (.refl _) (.cons (.refl _) (.cons (.us 0 I) (.rest _))))) (.rest _))))))) (nG [] I (nR 4 (([a.1] : List Path).map Aj) (nG [3] I (Bf 3 I bs fun bu => Af 1 I ?_))))))
 obtain rfl := oi h
 refine nE ?_
 exact ⟨_, _, _, I, ⟨bu, I2⟩, J5, [0, 1, 2, 3], I, by decide⟩
 intro a4 h
 obtain rfl := ae _ (oi h).symm
 replace h := ad
 replace h := Do h
 refine nO ?_
 exact lg ⟨(b.1, b.2.1, b.2.2), k, h, I2⟩ [0, 1, 2, 3]
 rintro s ob ⟨O, R, h, rfl, rfl⟩
 unfold Im.J3 at h
 refine nD (Af 3 I ?_)
 obtain rfl := oi h
 refine nE ?_
 exact ⟨_, _, _, I, ⟨R, I2⟩, J5, [0, 1, 2, 3], I, by decide⟩
 intro az h
 obtain rfl := ac _ (oi h).symm
 replace h := ab
 replace h := Do h
 refine nO ?_
 exact lg ⟨w.2.2.1, M, h, I2⟩ [3]
 rintro s ob ⟨Q, H, h, rfl, rfl⟩
 unfold Im.J1 at h
 refine Aq I ?_
 obtain rfl := oi h
 exact nK ⟨.inr I, [_, _], [.us H 52 4 (Q.map Aj)], J2, Dn I (Cf), ⟨H, I2⟩⟩
theorem bS (a : Path) (b : Path) (r : Bool) (h : K4 a b = some r) : ACalls Am 26 [.agg (Aj a), .agg (Aj b)] [] (fun x new => x = .v (.bool r) ∧ new = []) := by
 refine Ag Tryz.func26 rfl rfl rfl fun C hC => ?_
 unfold K4 at h
 refine Aa fun K n => nD (nG [] I (nQ (cs := Aj a) (m := 4) I I I dS fun p => nG [] I (nQ (cs := Aj b) (m := 4) I I I dS fun t => Af 1 I (nE ?_))))
 subst n
 refine Aa fun M u => Dt 26 ((a.In != b.In) || ((a.Out != b.Out) || ((a.Hops.length : Int) != (b.Hops.length : Int)))) ?_ ?_
 refine nD (Ap 6 [.o 1 0, .o 3 1] I J2 ?_)
 rcases bt ((a.In != b.In)) with c | c
 refine Ad 11 I c (Af 15 I (nE ?_))
 exact jf (by simp only [c, bz]) I I I2
 refine Ad 11 I c (Ap 7 [.o 1 0, .o 3 1] I J2 ?_)
 rcases bt ((a.Out != b.Out)) with d | d
 refine Ad 18 I d (Af 8 I (nE ?_))
 exact jf (by simp only [c, d, bz]) I I I2
 refine Ad 18 I d (Ap 8 [.o 1 0, .l 2 (a.Hops.length : Int), .o 4 1, .l 5 (b.Hops.length : Int)] I ⟨Bh, I, Bh, I, J⟩ (nE ?_))
 exact jf (by simp only [c, d, bz]) I I I2
 refine Ay h I ?_ ?_
 intro w h
 refine Aq I (nM g0 ?_)
 obtain rfl := oi h
 exact nK pr
 intro w h
 refine nI ?_
 subst u
 refine Al (fun s ob => ∃ (g : Unit), K4.J1 g = some r ∧ s = [] ∧ ob = []) [] J ?_ ?_
 refine Aq I (nJ ?_)
 obtain ⟨N, y, i⟩ := Ac h
 clear h
 refine Bz y [(2, _), (3, _)] J2 (fun (j : Int) s ob => s = [(5, .V j)] ∧ ob = [.arr p 52 4 1 [Aj a], .arr t 52 4 1 [Aj b]]) ⟨I, I⟩ ⟨I, J⟩ ⟨[0, 1], I, by decide⟩ ?_
 rintro j O s ob ⟨rfl, rfl⟩ h k
 unfold K4.B2 at h
 refine Aa fun P A => Bu [.o 2 0, .l 3 (a.Hops.length : Int)] I ⟨Bh, I, J⟩ (Ay h I ?_ ?_)
 intro B h
 refine nI ?_
 subst A
 refine nH (nJ (nH ?_))
 obtain ⟨e, ⟨D, E⟩, h⟩ := Bk h
 obtain ⟨f, ⟨F, G⟩, h⟩ := Bk h
 refine Bw (pd 11 0 []) [0, 1] [_, _] I (By 10 [.o 1 0, .x 3 e.1 (Bc e.2), .o 6 1, .x 8 f.1 (Bc f.2)] I ⟨⟨F, Ah G⟩, I, ⟨D, Ah E⟩, I, J⟩ (nV I (Jy (r := ((e.2.Segment == f.2.Segment) && ((e.2.Back == f.2.Back) && true))) I I Rj I I I I) I (Ak (nE (Ay h I ?_ ?_)))))
 intro H h
 refine Aq I ?_
 obtain rfl := k _ (oi h).symm
 replace h := i
 replace h := Dh h
 refine nM g0 ?_
 obtain rfl := oi h
 exact nK pr
 intro H h
 refine nI (nD (Af 3 I ?_))
 obtain rfl := oi h
 refine nE ?_
 exact ⟨_, _, _, I, I2, J3, [0, 1], I, by decide⟩
 intro B h
 obtain rfl := k _ (oi h).symm
 replace h := i
 replace h := Do h
 refine nO ?_
 exact lg ⟨(), h, I2⟩ []
 rintro s ob ⟨g, h, rfl, rfl⟩
 unfold K4.J1 at h
 refine Aq I ?_
 obtain rfl := oi h
 exact nK pr
theorem cS (b : List Path) (a : Path) (r : Int) (h : Jn b a = some r) : ACalls Am 25 [.list 4 (b.map Aj), .agg (Aj a)] [] (fun x new => x = .V r ∧ new = []) := by
 refine Ag Tryz.func25 rfl rfl rfl fun C hC => ?_
 unfold Jn at h
 refine Aa fun A j => nD (nG [] I (nQ (cs := Aj a) (m := 4) I I I dS fun k => Af 1 I (nE ?_)))
 subst j
 refine Al (fun s ob => ∃ (d : Unit), Jn.J1 d = some r ∧ s = [] ∧ ob = []) [] J ?_ ?_
 refine Aq I (nJ ?_)
 obtain ⟨B, n, e⟩ := Ac h
 clear h
 refine Bz n [(0, _), (3, _)] J2 (fun (f : Int) s ob => s = [(5, .V f)] ∧ ob = [.arr k 52 4 1 [Aj a]]) ⟨I, I⟩ ⟨I, J⟩ ⟨[0], I, by decide⟩ ?_
 rintro f D s ob ⟨rfl, rfl⟩ h g
 unfold Jn.B2 at h
 refine Aa fun E p => Bu [.l 2 (b.length : Int)] I ⟨Bh, J⟩ (Ay h I ?_ ?_)
 intro t h
 refine nI ?_
 subst p
 refine nH (nJ (nH ?_))
 obtain ⟨i, ⟨u, v⟩, h⟩ := Bk h
 obtain ⟨F, w, h⟩ := Ac h
 refine Bw (pd 6 0 [5]) [0] [_] I (By 5 [.x 2 i.1 (Aj i.2), .o 4 0] I ⟨I, ⟨u, Ah v⟩, J⟩ (Ee I (bS _ _ _ w) (Ak (nE (Ay h I ?_ ?_)))))
 intro y h
 refine Aq I ?_
 obtain rfl := g _ (oi h).symm
 replace h := e
 replace h := Dh h
 refine nM g0 ?_
 obtain rfl := oi h
 exact nK pr
 intro y h
 refine nI (nD (Af 3 I ?_))
 obtain rfl := oi h
 refine nE ?_
 exact ⟨_, _, _, I, I2, J3, [0], I, by decide⟩
 intro t h
 obtain rfl := g _ (oi h).symm
 replace h := e
 replace h := Do h
 refine nO ?_
 exact lg ⟨(), h, I2⟩ []
 rintro s ob ⟨d, h, rfl, rfl⟩
 unfold Jn.J1 at h
 refine Aq I ?_
 obtain rfl := oi h
 exact nK pr
end Go.Proofs.YtmaamhgjeampmaaGreat
