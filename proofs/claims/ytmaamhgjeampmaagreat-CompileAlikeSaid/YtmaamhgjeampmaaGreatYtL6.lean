/- Walks that show what functions of the program compute; printed by a program of ours. No condition. -/
import Derived.Test.YtmaamhgjeampmaaGreatYtL2
import Derived.Test.YtmaamhgjeampmaaGreatYtD
set_option maxRecDepth 100000
namespace Go.Proofs.YtmaamhgjeampmaaGreat
open Go.Aw
set_option linter.unusedVariables false
set_option linter.unusedSimpArgs false
set_option maxHeartbeats 4000000
theorem Df (a : Int) (c : Int) (d : Int) (r : Bool) (h : Cl a c d = r) : ACalls Am 111 [.V a, .V c, .V d] [] (fun x new => x = .v (.bool r) ∧ new = []) := by
 refine Ag Tryz.func111 rfl rfl rfl fun C hC => ?_
 unfold Cl at h
 refine Aq I (Al (fun s ob => s = [(6, .v (.bool (decide (a ≥ c) && decide (a ≤ d))))] ∧ ob = []) [] J ?_ ?_)
 refine nD (Af 4 I ?_)
 rcases bt (decide (a ≥ c)) with b | b
 refine Ad 10 I b (Af 5 I (nE ?_))
 exact lf I2 ⟨(Dz (by simp only [b, bz])), J⟩ [] I
 refine Ad 10 I b (Af 5 I (nE ?_))
 exact lf I2 ⟨(Dz (by simp only [b, bz])), J⟩ [] I
 rintro s ob ⟨rfl, rfl⟩
 obtain rfl := h
 exact nK pr
theorem cD (a : Network) (r : Arr (List ByteArray) 4) (h : P9 a = some r) : ACalls Am 112 [.agg (Ab a)] [] (fun x new => x = .agg (r.l.map (cL 1 rS)) ∧ new = []) := by
 refine Ag Tryz.func112 rfl rfl rfl fun C hC => ?_
 unfold P9 at h
 refine Aa fun y1 U => nD (nG [] I (nQ (cs := Ab a) (m := 6) I I I dS fun u => nG [] I (nN (cs := [.N, .N, .N, .N]) (m := 4) I I I I I dS fun f => nE ?_)))
 subst U
 refine Aa fun y4 W => nD (nG [] I (nN (cs := [.N, .N, .N, .N]) (m := 4) I I I I I dS fun g => nE ?_))
 subst W
 refine Aa fun y6 X => nD (Ap 2 [.o 1 0] I J1 (Ck (D0 (m := 0) I I I I I I (Bs I)) I (nG [2] I (Ax 2 0 0 [[.list 1 (a.Nodes.map rS), .N, .N, .N]] I (nE ?_)))))
 subst X
 refine Al (fun s ob => ∃ (c : List ByteArray) (b : Value), P9.J1 a c = some r ∧ s = [] ∧ ob = [.arr u 32 6 1 [Ab a], .arr f 158 4 1 [[.N, .N, .N, .N]], .arr g 158 4 1 [[.list 1 (a.Nodes.map rS), .v b, .N, .N]], .us b 9 1 (c.map rS)]) [(1, _), (2, _), (3, _)] J3 ?_ ?_
 refine Bu [.o 1 0, .l 2 (a.Segments.length : Int)] I ⟨Bh, I, J⟩ (nJ (Cz 14 I fun Y => nM (Bo 9 1) ?_))
 obtain ⟨a5, Z, aa⟩ := Ac h
 clear h
 refine Dl Z [(1, _), (2, _), (3, _), (14, _), (15, _)] J5 (fun (w : Nat) (y : List ByteArray) s ob => ∃ (j : Value), s = [(16, .V (w : Int))] ∧ ob = [.arr u 32 6 1 [Ab a], .arr f 158 4 1 [[.N, .N, .N, .N]], .arr g 158 4 1 [[.list 1 (a.Nodes.map rS), .v j, .N, .N]], .us j 9 1 (y.map rS)]) ⟨(.slice none 0 0), I2⟩ ⟨I, J⟩ ⟨[0, 1, 2, 3], I, by decide⟩ ?_ ?_
 rintro w F y a6 s ob ab M ⟨j, rfl, rfl⟩ h
 unfold P9.B6 at h
 have ac := Di M
 refine Aq I (Aa fun a7 ad => Av (v := true) I ac (nI ?_))
 subst ad
 refine nH (nJ (nH (nD (Ap 2 [.x 0 w (Ar F)] I ⟨⟨I, Ah ab⟩, J⟩ (nG [] I (nN (cs := [.v (.string ⟨#[]⟩), .V 0, .V 0, .V 0, .V 0, .V 0, .N]) (m := 7) I I I I I dS fun a8 => nG [4] I (Ax 4 0 0 [Ar F] I (nE ?_))))))))
 obtain ⟨a9, ae, h⟩ := Ac h
 refine nD (Ck (D0 (m := 1) I I I I I I (Bs I)) I (Ap 3 [.o 0 2, .o 2 4] I J2 (nG [] I (nR 1 (([F.Name] : List ByteArray).map rS) (nG [3] I (Bf 3 I ae fun O => Ck (D0 (m := 1) I I I I I I (Bs I)) I (nZ 3 I fun af => nG [2] I (nU 2 0 1 (es' := [[.list 1 (a.Nodes.map rS), .v O, .N, .N]]) I I I I I I (Ai af) I (Bs I) I I (nE (nD (Ap 2 [.k 0 (w + 1 : Nat)] I ⟨Bt M Y, J⟩ ?_)))))))))))
 obtain rfl := oi h
 refine nE ?_
 exact lg ⟨O, I2⟩ [0, 1, 2, 3]
 rintro y s ob ⟨j, rfl, rfl⟩ he
 subst he
 have h := aa
 have ag := Dj a.Segments.length
 refine Aq I (Aa fun ba bb => Av (v := false) I ag (nO ?_))
 exact lg ⟨y, j, h, I2⟩ [0, 1, 2, 3]
 rintro s ob ⟨c, b, h, rfl, rfl⟩
 unfold P9.J1 at h
 refine Al (fun s ob => ∃ (e : List ByteArray) (d : Value), P9.J2 a c e = some r ∧ s = [] ∧ ob = [.arr u 32 6 1 [Ab a], .arr f 158 4 1 [[.N, .N, .N, .N]], .arr g 158 4 1 [[.list 1 (a.Nodes.map rS), .v b, .v d, .N]], .us b 9 1 (c.map rS), .us d 9 1 (e.map rS)]) [(1, _), (2, _), (3, _)] J3 ?_ ?_
 refine Bu [.o 1 0, .l 2 (a.Ports.length : Int)] I ⟨Bh, I, J⟩ (nJ (Cz 29 I fun ah => nM (Bo 9 1) ?_))
 obtain ⟨bc, ai, aj⟩ := Ac h
 clear h
 refine Dl ai [(1, _), (2, _), (3, _), (29, _), (30, _)] J5 (fun (A : Nat) (B : List ByteArray) s ob => ∃ (n : Value), s = [(31, .V (A : Int))] ∧ ob = [.arr u 32 6 1 [Ab a], .arr f 158 4 1 [[.N, .N, .N, .N]], .arr g 158 4 1 [[.list 1 (a.Nodes.map rS), .v b, .v n, .N]], .us b 9 1 (c.map rS), .us n 9 1 (B.map rS)]) ⟨(.slice none 0 0), I2⟩ ⟨I, J⟩ ⟨[0, 1, 2, 3, 4], I, by decide⟩ ?_ ?_
 rintro A G B bd s ob ak P ⟨n, rfl, rfl⟩ h
 unfold P9.B5 at h
 have al := Di P
 refine Aq I (Aa fun be am => Av (v := true) I al (nI ?_))
 subst am
 refine nH (nJ (nH (nD (Ap 2 [.x 0 A (Bj G)] I ⟨⟨I, Ah ak⟩, J⟩ (nG [] I (nN (cs := [.v (.string ⟨#[]⟩), .V 0, .V 0]) (m := 3) I I I I I dS fun bf => nG [5] I (Ax 5 0 0 [Bj G] I (nE ?_))))))))
 obtain ⟨bg, an, h⟩ := Ac h
 refine nD (Ck (D0 (m := 2) I I I I I I (Bs I)) I (Ap 3 [.o 0 2, .o 2 5] I J2 (nG [] I (nR 1 (([G.Name] : List ByteArray).map rS) (nG [4] I (Bf 4 I an fun Q => Ck (D0 (m := 2) I I I I I I (Bs I)) I (nZ 4 I fun ao => nG [2] I (nU 2 0 2 (es' := [[.list 1 (a.Nodes.map rS), .v b, .v Q, .N]]) I I I I I I (Ai ao) I (Bs I) I I (nE (nD (Ap 2 [.k 0 (A + 1 : Nat)] I ⟨Bt P ah, J⟩ ?_)))))))))))
 obtain rfl := oi h
 refine nE ?_
 exact lg ⟨Q, I2⟩ [0, 1, 2, 3, 4]
 rintro B s ob ⟨n, rfl, rfl⟩ he
 subst he
 have h := aj
 have aq := Dj a.Ports.length
 refine Aq I (Aa fun bh bi => Av (v := false) I aq (nO ?_))
 exact lg ⟨B, n, h, I2⟩ [0, 1, 2, 3, 4]
 rintro s ob ⟨e, d, h, rfl, rfl⟩
 unfold P9.J2 at h
 refine Al (fun s ob => ∃ (q : List ByteArray) (i : Value), P9.J3 a c e q = some r ∧ s = [] ∧ ob = [.arr f 158 4 1 [[.N, .N, .N, .N]], .arr g 158 4 1 [[.list 1 (a.Nodes.map rS), .v b, .v d, .v i]], .us b 9 1 (c.map rS), .us d 9 1 (e.map rS), .us i 9 1 (q.map rS)]) [(2, _), (3, _)] J2 ?_ ?_
 refine Bu [.o 1 0, .l 2 (a.Stations.length : Int)] I ⟨Bh, I, J⟩ (nJ (Cz 44 I fun ar => nM (Bo 9 1) ?_))
 obtain ⟨bj, au, av⟩ := Ac h
 clear h
 refine Dl au [(2, _), (3, _), (44, _), (45, _)] J4 (fun (D : Nat) (E : List ByteArray) s ob => ∃ (t : Value), s = [(46, .V (D : Int))] ∧ ob = [.arr f 158 4 1 [[.N, .N, .N, .N]], .arr g 158 4 1 [[.list 1 (a.Nodes.map rS), .v b, .v d, .v t]], .us b 9 1 (c.map rS), .us d 9 1 (e.map rS), .us t 9 1 (E.map rS)]) ⟨(.slice none 0 0), I2⟩ ⟨I, J⟩ ⟨[1, 2, 3, 4, 5], I, by decide⟩ ?_ ?_
 rintro D H E bk s ob aw R ⟨t, rfl, rfl⟩ h
 unfold P9.B4 at h
 have ax := Di R
 refine Aq I (Aa fun bl ay => Av (v := true) I ax (nI ?_))
 subst ay
 refine nH (nJ (nH (nD (Ap 2 [.x 0 D (A4 H)] I ⟨⟨I, Ah aw⟩, J⟩ (nG [] I (nN (cs := [.v (.string ⟨#[]⟩), .V 0, .V 0, .V 0, .V 0]) (m := 5) I I I I I dS fun bm => nG [5] I (Ax 5 0 0 [A4 H] I (nE ?_))))))))
 obtain ⟨bn, az, h⟩ := Ac h
 refine nD (Ck (D0 (m := 3) I I I I I I (Bs I)) I (Ap 3 [.o 0 1, .o 2 5] I J2 (nG [] I (nR 1 (([H.Name] : List ByteArray).map rS) (nG [4] I (Bf 4 I az fun S => Ck (D0 (m := 3) I I I I I I (Bs I)) I (nZ 4 I fun a0 => nG [1] I (nU 1 0 3 (es' := [[.list 1 (a.Nodes.map rS), .v b, .v d, .v S]]) I I I I I I (Ai a0) I (Bs I) I I (nE (nD (Ap 2 [.k 0 (D + 1 : Nat)] I ⟨Bt R ar, J⟩ ?_)))))))))))
 obtain rfl := oi h
 refine nE ?_
 exact lg ⟨S, I2⟩ [0, 1, 2, 3, 4]
 rintro E s ob ⟨t, rfl, rfl⟩ he
 subst he
 have h := av
 have a1 := Dj a.Stations.length
 refine Aq I (Aa fun bo bp => Av (v := false) I a1 (nO ?_))
 exact lg ⟨E, t, h, I2⟩ [0, 1, 2, 3, 4]
 rintro s ob ⟨q, i, h, rfl, rfl⟩
 unfold P9.J3 at h
 refine nH (nD (Ap 1 [.o 0 1] I J1 (nG [0] I (Ax 0 0 0 [[.list 1 (a.Nodes.map rS), .v b, .v d, .v i]] I (nE (nM (A0 [2, 3, 4] (K := [.us b 9 1 (c.map rS), .us d 9 1 (e.map rS), .us i 9 1 (q.map rS)]) I [] J (ob' := [.arr f 158 4 1 [[.list 1 (a.Nodes.map rS), .list 1 (c.map rS), .list 1 (e.map rS), .list 1 (q.map rS)]], .arr g 158 4 1 [[.list 1 (a.Nodes.map rS), .v b, .v d, .v i]]]) (.cons (.arr (.cons (.refl _) (.cons (.us 0 I) (.cons (.us 1 I) (.cons (.us 2 I) (.rest _)))))) (.rest _))) (Cb [0] I ?_)))))))
 obtain rfl := oi h
 exact nK ⟨.inr I, [_], [], ⟨⟨0, _, _, _, _, _, _, _, I5⟩, J⟩, Cf, I2⟩
theorem cC (g : ByteArray) (r : Bool) (h : Uc g = some r) : ACalls Am 113 [.v (.string g)] [] (fun x new => x = .v (.bool r) ∧ new = []) := by
 refine Ag Tryz.func113 rfl rfl rfl fun C hC => ?_
 unfold Uc at h
 refine Aq I (Aa fun X M => Al (fun s ob => ∃ (y : Bool), Uc.J1 g y = some r ∧ s = [(21, .v (.bool y))] ∧ ob = []) [(0, _)] J1 ?_ ?_)
 refine nD (Af 4 I ?_)
 rcases bt (decide ((g.size : Int) < 1)) with i | i
 replace h := B0 i h
 refine Ad 7 I i (Af 14 I (nE ?_))
 exact lg ⟨true, h, I2⟩ []
 replace h := Ca i h
 refine Ad 7 I i ?_
 rcases bt (decide ((g.size : Int) > 12)) with j | j
 replace h := B0 j h
 refine Af 5 I (Ad 12 I j (Af 9 I (nE ?_)))
 exact lg ⟨true, h, I2⟩ []
 replace h := Ca j h
 obtain ⟨f, N, h⟩ := Ac h
 obtain ⟨D, E, F⟩ := L0 N
 refine Af 5 I (Ad 12 I j (Af 1 I (Br I I I (Ck (C9 (m := f.1) I I I I D E F) I (Br I I I (Ck (nY (c := decide (f.2 < 97)) I I I) I (Af 2 I ?_)))))))
 rcases bt (decide (f.2 < 97)) with k | k
 replace h := B0 k h
 refine Ad 17 I k (Af 4 I (nE ?_))
 exact lg ⟨true, h, I2⟩ []
 replace h := Ca k h
 refine Ad 17 I k (Af 1 I (Br I I I (Ck (C9 (m := f.1) I I I I D E F) I (Br I I I (Ck (nY (c := decide (f.2 > 122)) I I I) I (Af 1 I (nE ?_)))))))
 exact lg ⟨decide (f.2 > 122), h, I2⟩ []
 rintro s ob ⟨y, h, rfl, rfl⟩
 unfold Uc.J1 at h
 refine Ay h I ?_ ?_
 intro O h
 refine Aq I ?_
 obtain rfl := oi h
 exact nK pr
 intro O h
 refine nI ?_
 subst M
 refine Al (fun s ob => ∃ (G : Unit), Uc.J2 G = some r ∧ s = [] ∧ ob = []) [] J ?_ ?_
 refine Aq I (nJ ?_)
 obtain ⟨Y, P, H⟩ := Ac h
 clear h
 refine Bz P [(0, _)] J1 (fun (A : Int) s ob => s = [(3, .V A)] ∧ ob = []) ⟨I, I⟩ ⟨I, J⟩ ⟨[], I, by decide⟩ ?_
 rintro A Q s ob ⟨rfl, rfl⟩ h K
 unfold Uc.B3 at h
 refine Aa fun Z R => Aq I (Ay h I ?_ ?_)
 intro S h
 refine nI ?_
 subst R
 refine nH (nJ (Al (fun s ob => ∃ (B : Bool), Uc.J4 A B = some Q ∧ s = [(55, .v (.bool B))] ∧ ob = []) [(0, _), (3, _)] J2 ?_ ?_))
 obtain ⟨a, U, h⟩ := Ac h
 obtain ⟨b, d, e⟩ := L0 U
 refine nD (Af 2 I (Ck (C9 (m := a.1) I I I I b d e) I (Ck (nY (c := decide (a.2 < 97)) I I I) I (Af 1 I ?_))))
 rcases bt (decide (a.2 < 97)) with l | l
 replace h := B0 l h
 refine Ad 32 I l (Af 8 I (Br I I I (Ck (C9 (m := a.1) I I I I b d e) I (Br I I I (Ck (nY (c := decide (a.2 < 48)) I I I) I (Af 1 I ?_))))))
 rcases bt (decide (a.2 < 48)) with n | n
 replace h := B0 n h
 refine Ad 43 I n (Af 9 I (Br I I I (Ck (C9 (m := a.1) I I I I b d e) I (Br I I I (Ck (nY (c := (a.2 != 45)) I I I) I (Af 1 I (nE ?_)))))))
 exact lg ⟨(a.2 != 45), h, I2⟩ []
 replace h := Ca n h
 refine Ad 43 I n (Af 2 I (Br I I I (Ck (C9 (m := a.1) I I I I b d e) I (Br I I I (Ck (nY (c := decide (a.2 > 57)) I I I) I (Af 3 I ?_))))))
 rcases bt (decide (a.2 > 57)) with o | o
 replace h := B0 o h
 refine Ad 50 I o (Af 2 I (Br I I I (Ck (C9 (m := a.1) I I I I b d e) I (Br I I I (Ck (nY (c := (a.2 != 45)) I I I) I (Af 1 I (nE ?_)))))))
 exact lg ⟨(a.2 != 45), h, I2⟩ []
 replace h := Ca o h
 refine Ad 50 I o (Af 5 I (nE ?_))
 exact lg ⟨false, h, I2⟩ []
 replace h := Ca l h
 refine Ad 32 I l (Af 2 I (Br I I I (Ck (C9 (m := a.1) I I I I b d e) I (Br I I I (Ck (nY (c := decide (a.2 > 122)) I I I) I (Af 2 I ?_))))))
 rcases bt (decide (a.2 > 122)) with t | t
 replace h := B0 t h
 refine Ad 38 I t (Af 2 I (Br I I I (Ck (C9 (m := a.1) I I I I b d e) I (Br I I I (Ck (nY (c := decide (a.2 < 48)) I I I) I (Af 1 I ?_))))))
 rcases bt (decide (a.2 < 48)) with u | u
 replace h := B0 u h
 refine Ad 43 I u (Af 9 I (Br I I I (Ck (C9 (m := a.1) I I I I b d e) I (Br I I I (Ck (nY (c := (a.2 != 45)) I I I) I (Af 1 I (nE ?_)))))))
 exact lg ⟨(a.2 != 45), h, I2⟩ []
 replace h := Ca u h
 refine Ad 43 I u (Af 2 I (Br I I I (Ck (C9 (m := a.1) I I I I b d e) I (Br I I I (Ck (nY (c := decide (a.2 > 57)) I I I) I (Af 3 I ?_))))))
 rcases bt (decide (a.2 > 57)) with w | w
 replace h := B0 w h
 refine Ad 50 I w (Af 2 I (Br I I I (Ck (C9 (m := a.1) I I I I b d e) I (Br I I I (Ck (nY (c := (a.2 != 45)) I I I) I (Af 1 I (nE ?_)))))))
 exact lg ⟨(a.2 != 45), h, I2⟩ []
 replace h := Ca w h
 refine Ad 50 I w (Af 5 I (nE ?_))
 exact lg ⟨false, h, I2⟩ []
 replace h := Ca t h
 refine Ad 38 I t (Af 5 I (Cq I I dS (Cq I I dS (Cq I I dS (Cq I I dS (Af 8 I (nE ?_)))))))
 exact lg ⟨false, h, I2⟩ []
 rintro s ob ⟨B, h, rfl, rfl⟩
 unfold Uc.J4 at h
 refine Ay h I ?_ ?_
 intro W h
 refine Aq I ?_
 obtain rfl := K _ (oi h).symm
 replace h := H
 replace h := Dh h
 obtain rfl := oi h
 exact nK pr
 intro W h
 refine nI (nD (Af 3 I ?_))
 obtain rfl := oi h
 refine nE ?_
 exact ⟨_, _, _, I, I2, J2, [], I, by decide⟩
 intro S h
 obtain rfl := K _ (oi h).symm
 replace h := H
 replace h := Do h
 refine nO ?_
 exact lg ⟨(), h, I2⟩ []
 rintro s ob ⟨G, h, rfl, rfl⟩
 unfold Uc.J2 at h
 refine Aq I ?_
 obtain rfl := oi h
 exact nK pr
theorem dH (a : List ByteArray) (r : Bool) (h : Nw a = some r) : ACalls Am 114 [.list 1 (a.map rS)] [] (fun x new => x = .v (.bool r) ∧ new = []) := by
 refine Ag Tryz.func114 rfl rfl rfl fun C hC => ?_
 unfold Nw at h
 refine Aq I (Al (fun s ob => ∃ (e : Unit), Nw.J1 e = some r ∧ s = [] ∧ ob = []) [] J ?_ ?_)
 refine Bu [.l 1 (a.length : Int)] I ⟨Bh, J⟩ (nJ (Cz 5 I fun t => ?_))
 obtain ⟨O, u, f⟩ := Ac h
 clear h
 refine C1 u [(0, _), (6, _)] J2 (fun (b : Nat) (g : Unit) s ob => s = [(7, .V (b : Int))] ∧ ob = []) ⟨I, I⟩ ⟨I, J⟩ ⟨[], I, by decide⟩ ?_ ?_
 rintro b i g w s ob y j ⟨rfl, rfl⟩ h A
 unfold Nw.B2 at h
 have B := Di j
 refine Aq I (Aa fun P D => Av (v := true) I B (nI ?_))
 subst D
 refine Al (fun s ob => ∃ (m : Unit), Nw.J3 m = some w ∧ s = [] ∧ ob = []) [(0, _), (6, _), (7, _)] J3 ?_ ?_
 refine nJ (Aq I (Aq I (nJ ?_)))
 obtain ⟨Q, E, n⟩ := Ac h
 clear h
 refine Bz E [(0, _), (3, _), (6, _), (7, _)] J4 (fun (o : Int) s ob => s = [(4, .V o)] ∧ ob = []) ⟨I, I⟩ ⟨I, J⟩ ⟨[], I, by decide⟩ ?_
 rintro o R s ob ⟨rfl, rfl⟩ h p
 unfold Nw.B4 at h
 refine Aa fun S F => Aq I (Ay h I ?_ ?_)
 intro G h
 refine nI ?_
 subst F
 refine nH (nJ (nH ?_))
 obtain ⟨d, ⟨H, K⟩, h⟩ := Bk h
 refine Bw (pd 9 0 []) [] [] I (By 8 [.x 2 b (rS i), .x 6 d.1 (rS d.2)] I ⟨⟨H, Ah K⟩, ⟨I, Ah y⟩, J⟩ (nV I (Yp.cmpS (c := Wd i d.2) I I I) I (Ak (nE (Ay h I ?_ ?_)))))
 intro M h
 refine Aq I ?_
 obtain rfl := p _ (oi h).symm
 replace h := n
 replace h := Dh h
 obtain rfl := A _ (oi h).symm
 replace h := f
 replace h := Do h
 obtain rfl := oi h
 exact nK pr
 intro M h
 refine nI (nD (Af 3 I ?_))
 obtain rfl := oi h
 refine nE ?_
 exact ⟨_, _, _, I, I2, J5, [], I, by decide⟩
 intro G h
 obtain rfl := p _ (oi h).symm
 replace h := n
 replace h := Do h
 refine nO ?_
 exact lg ⟨(), h, I2⟩ []
 rintro s ob ⟨m, h, rfl, rfl⟩
 unfold Nw.J3 at h
 refine nD (Ap 2 [.k 0 (b + 1 : Nat)] I ⟨Bt j t, J⟩ ?_)
 obtain rfl := oi h
 refine nE ?_
 exact ⟨_, _, _, I, I2, J3, [], I, by decide⟩
 rintro g s ob ⟨rfl, rfl⟩ he
 subst he
 have h := Dh f
 have N := Dj a.length
 refine Aq I (Aa fun U W => Av (v := false) I N (nO ?_))
 exact lg ⟨(), h, I2⟩ []
 rintro s ob ⟨e, h, rfl, rfl⟩
 unfold Nw.J1 at h
 refine Aq I ?_
 obtain rfl := oi h
 exact nK pr
theorem bY (a : Segment) (r : Bool) (h : Nf a = some r) : ACalls Am 115 [.agg (Ar a)] [] (fun x new => x = .v (.bool r) ∧ new = []) := by
 refine Ag Tryz.func115 rfl rfl rfl fun C hC => ?_
 unfold Nf at h
 refine Aa fun y1 K => nD (nG [] I (nQ (cs := Ar a) (m := 7) I I I dS fun u => Af 1 I (nE ?_)))
 subst K
 refine Aa fun y3 M => Al (fun s ob => ∃ (w : Bool), Nf.J1 a w = some r ∧ s = [(49, .v (.bool w))] ∧ ob = [.arr u 83 7 1 [Ar a]]) [(1, _)] J1 ?_ ?_
 refine Bw (pd 45 0 [8, 14, 20]) [0] [_] I (By 6 [.o 1 0, .o 3 0] I J2 ?_)
 rcases bt ((a.From == a.To)) with c | c
 replace h := B0 c h
 refine Bq 10 I c (Bm 39 I (Ak (nE ?_)))
 exact lg ⟨true, h, I2⟩ [0]
 replace h := Ca c h
 refine Bq 10 I c (By 2 [.o 1 0] I J1 (Hy I (Df a.Capacity 1 1000000 _ I) (Bm 3 I ?_)))
 rcases bt ((!(Cl a.Capacity 1 1000000))) with d | d
 replace h := B0 d h
 refine Bq 16 I d (Bm 33 I (Ak (nE ?_)))
 exact lg ⟨true, h, I2⟩ [0]
 replace h := Ca d h
 refine Bq 16 I d (By 2 [.o 1 0] I J1 (Hy I (Df a.Resist 0 1000 _ I) (Bm 3 I ?_)))
 rcases bt ((!(Cl a.Resist 0 1000))) with e | e
 replace h := B0 e h
 refine Bq 22 I e (Bm 27 I (Ak (nE ?_)))
 exact lg ⟨true, h, I2⟩ [0]
 replace h := Ca e h
 refine Bq 22 I e (By 2 [.o 1 0] I J1 (Hy I (Df a.Wave 0 100000 _ I) (Bm 3 I ?_)))
 rcases bt ((!(Cl a.Wave 0 100000))) with f | f
 replace h := B0 f h
 refine Bq 28 I f (Bm 21 I (Ak (nE ?_)))
 exact lg ⟨true, h, I2⟩ [0]
 replace h := Ca f h
 obtain ⟨y, ⟨N, O⟩, h⟩ := Bk h
 refine Bq 28 I f (By 8 [.o 1 0, .x 2 y.1 (C2 y.2)] I ⟨⟨N, Ah O⟩, I, J⟩ ?_)
 rcases bt ((y.2.At != 0)) with g | g
 replace h := B0 g h
 refine Bq 36 I g (Bm 13 I (Ak (nE ?_)))
 exact lg ⟨true, h, I2⟩ [0]
 replace h := Ca g h
 obtain ⟨A, ⟨P, Q⟩, h⟩ := Bk h
 refine Bq 36 I g (By 13 [.o 1 0, .o 3 0, .l 4 (a.Points.length : Int), .x 6 A.1 (C2 A.2), .o 10 0] I ⟨I, ⟨P, Ah Q⟩, Bh, I, I, J⟩ (Ak (nE ?_)))
 exact lg ⟨(A.2.At != a.Capacity), h, I2⟩ [0]
 rintro s ob ⟨w, h, rfl, rfl⟩
 unfold Nf.J1 at h
 refine Ay h I ?_ ?_
 intro R h
 refine Aq I (nM g0 ?_)
 obtain rfl := oi h
 exact nK pr
 intro R h
 refine nI ?_
 subst M
 refine Al (fun s ob => ∃ (E : Unit), Nf.J2 E = some r ∧ s = [] ∧ ob = []) [] J ?_ ?_
 refine Bu [.o 1 0, .l 2 (a.Points.length : Int)] I ⟨Bh, I, J⟩ (nJ (Cz 51 I fun S => ?_))
 obtain ⟨ai, U, F⟩ := Ac h
 clear h
 refine C1 U [(1, _), (51, _), (52, _)] J3 (fun (i : Nat) (G : Unit) s ob => s = [(53, .V (i : Int))] ∧ ob = [.arr u 83 7 1 [Ar a]]) ⟨I, I⟩ ⟨I, J⟩ ⟨[0], I, by decide⟩ ?_ ?_
 rintro i b G W s ob X H ⟨rfl, rfl⟩ h Y
 unfold Nf.B3 at h
 have Z := Di H
 refine Aq I (Aa fun aj aa => Av (v := true) I Z (nI ?_))
 subst aa
 refine nH (nJ (Aa fun ak ab => nD (Ap 3 [.x 1 i (C2 b)] I ⟨⟨I, Ah X⟩, J⟩ (nG [] I (nN (cs := [.V 0, .V 0, .V 0]) (m := 3) I I I I I dS fun al => Af 1 I (nG [1] I (Ax 1 0 0 [C2 b] I (nE ?_))))))))
 subst ab
 refine Al (fun s ob => ∃ (B : Bool), Nf.J4 B = some W ∧ s = [(83, .v (.bool B))] ∧ ob = [.arr u 83 7 1 [Ar a]]) [(1, _), (51, _), (52, _), (53, _)] J4 ?_ ?_
 rcases bt (decide ((i : Int) > 0)) with j | j
 replace h := B0 j h
 obtain ⟨D, ⟨ac, ad⟩, h⟩ := Bk h
 refine Bw (pd 26 0 [17, 23]) [1, 0] [_, _] I (Bm 3 I (Bq 60 I j (By 12 [.o 1 0, .o 3 1, .x 6 D.1 (C2 D.2)] I ⟨⟨ac, Ah ad⟩, I, I, J⟩ ?_)))
 rcases bt (decide (b.At ≤ D.2.At)) with n | n
 replace h := B0 n h
 refine Bq 72 I n (Bm 11 I (Ak (nE ?_)))
 exact lg ⟨true, h, I2⟩ [0]
 replace h := Ca n h
 refine Bq 72 I n (By 2 [.o 1 0] I J1 (Hy I (Df b.Height (-500) 5000 _ I) (Bm 3 I ?_)))
 rcases bt ((!(Cl b.Height (-500) 5000))) with p | p
 replace h := B0 p h
 refine Bq 78 I p (Bm 5 I (Ak (nE ?_)))
 exact lg ⟨true, h, I2⟩ [0]
 replace h := Ca p h
 refine Bq 78 I p (By 2 [.o 1 0] I J1 (Hy I (Df b.Limit 0 100000000 _ I) (Bm 2 I (Ak (nE ?_)))))
 exact lg ⟨(!(Cl b.Limit 0 100000000)), h, I2⟩ [0]
 replace h := Ca j h
 refine Bw (pd 26 0 [17, 23]) [1] [_] I (Bm 3 I (Bq 60 I j (By 14 [.o 13 0] I J1 (Hy I (Df b.Height (-500) 5000 _ I) (Bm 3 I ?_)))))
 rcases bt ((!(Cl b.Height (-500) 5000))) with t | t
 replace h := B0 t h
 refine Bq 78 I t (Bm 5 I (Ak (nE ?_)))
 exact lg ⟨true, h, I2⟩ [0]
 replace h := Ca t h
 refine Bq 78 I t (By 2 [.o 1 0] I J1 (Hy I (Df b.Limit 0 100000000 _ I) (Bm 2 I (Ak (nE ?_)))))
 exact lg ⟨(!(Cl b.Limit 0 100000000)), h, I2⟩ [0]
 rintro s ob ⟨B, h, rfl, rfl⟩
 unfold Nf.J4 at h
 refine Ay h I ?_ ?_
 intro ae h
 refine Aq I ?_
 obtain rfl := Y _ (oi h).symm
 replace h := F
 replace h := Do h
 refine nM g0 ?_
 obtain rfl := oi h
 exact nK pr
 intro ae h
 refine nI (nD (Ap 2 [.k 0 (i + 1 : Nat)] I ⟨Bt H S, J⟩ ?_))
 obtain rfl := oi h
 refine nE ?_
 exact ⟨_, _, _, I, I2, J4, [0], I, by decide⟩
 rintro G s ob ⟨rfl, rfl⟩ he
 subst he
 have h := Dh F
 have af := Dj a.Points.length
 refine Aq I (Aa fun am an => Av (v := false) I af (nO ?_))
 exact lg ⟨(), h, I2⟩ []
 rintro s ob ⟨E, h, rfl, rfl⟩
 unfold Nf.J2 at h
 refine Aq I ?_
 obtain rfl := oi h
 exact nK pr
theorem If (a : Network) (r : Int) (h : G6 a = some r) : ACalls Am 69 [.agg (Ab a)] [] (fun x new => x = .V r ∧ new = []) := by
 refine Ag Tryz.func69 rfl rfl rfl fun C hC => ?_
 unfold G6 at h
 refine Aa fun y1 bn => nD (nG [] I (nQ (cs := Ab a) (m := 6) I I I dS fun b => Af 1 I (nE ?_)))
 subst bn
 refine Aa fun y3 bo => Dt 49 ((!(Cl (a.Nodes.length : Int) 1 24)) || (decide ((a.Segments.length : Int) > 32) || (decide ((a.Ports.length : Int) > 24) || decide ((a.Stations.length : Int) > 12)))) ?_ ?_
 refine nD (Ap 3 [.o 1 0, .l 2 (a.Nodes.length : Int)] I ⟨Bh, I, J⟩ (Cg (Df (a.Nodes.length : Int) 1 24 _ I) (Af 2 I ?_)))
 rcases bt ((!(Cl (a.Nodes.length : Int) 1 24))) with g | g
 refine Ad 32 I g (Af 17 I (nE ?_))
 exact jf (by simp only [g, bz]) I I I2
 refine Ad 32 I g (Ap 6 [.o 1 0, .l 2 (a.Segments.length : Int)] I ⟨Bh, I, J⟩ ?_)
 rcases bt (decide ((a.Segments.length : Int) > 32)) with j | j
 refine Ad 38 I j (Af 11 I (nE ?_))
 exact jf (by simp only [g, j, bz]) I I I2
 refine Ad 38 I j (Ap 6 [.o 1 0, .l 2 (a.Ports.length : Int)] I ⟨Bh, I, J⟩ ?_)
 rcases bt (decide ((a.Ports.length : Int) > 24)) with t | t
 refine Ad 44 I t (Af 5 I (nE ?_))
 exact jf (by simp only [g, j, t, bz]) I I I2
 refine Ad 44 I t (Ap 5 [.o 1 0, .l 2 (a.Stations.length : Int)] I ⟨Bh, I, J⟩ (nE ?_))
 exact jf (by simp only [g, j, t, bz]) I I I2
 refine Ay h I ?_ ?_
 intro bp h
 refine Aq I (nM g0 ?_)
 obtain rfl := oi h
 exact nK pr
 intro bp h
 refine nI ?_
 subst bo
 refine Al (fun s ob => ∃ (Z : Unit), G6.J1 a Z = some r ∧ s = [] ∧ ob = [.arr b 32 6 1 [Ab a]]) [(1, _)] J1 ?_ ?_
 refine Bu [.o 1 0, .l 2 (a.Segments.length : Int)] I ⟨Bh, I, J⟩ (nJ (Cz 51 I fun bq => ?_))
 obtain ⟨e4, br, aa⟩ := Ac h
 clear h
 refine C1 br [(1, _), (51, _), (52, _)] J3 (fun (B : Nat) (ab : Unit) s ob => s = [(53, .V (B : Int))] ∧ ob = [.arr b 32 6 1 [Ab a]]) ⟨I, I⟩ ⟨I, J⟩ ⟨[0], I, by decide⟩ ?_ ?_
 rintro B D ab e5 s ob bs ac ⟨rfl, rfl⟩ h bu
 unfold G6.B24 at h
 have bv := Di ac
 refine Aq I (Aa fun e6 bw => Av (v := true) I bv (nI ?_))
 subst bw
 refine nH (nJ (nH (nD (Ap 2 [.x 0 B (Ar D)] I ⟨⟨I, Ah bs⟩, J⟩ (nG [] I (nN (cs := [.v (.string ⟨#[]⟩), .V 0, .V 0, .V 0, .V 0, .V 0, .N]) (m := 7) I I I I I dS fun e7 => nG [1] I (Ax 1 0 0 [Ar D] I (nE (nH (nD (Ap 3 [.o 1 1, .l 2 (D.Points.length : Int)] I ⟨Bh, I, J⟩ (Cg (Df (D.Points.length : Int) 2 8 _ I) (Af 1 I ?_)))))))))))))
 refine nE (Ay h I ?_ ?_)
 intro bx h
 refine Aq I ?_
 obtain rfl := bu _ (oi h).symm
 replace h := aa
 replace h := Do h
 refine nM g0 ?_
 obtain rfl := oi h
 exact nK pr
 intro bx h
 refine nI (nD (Ap 2 [.k 0 (B + 1 : Nat)] I ⟨Bt ac bq, J⟩ ?_))
 obtain rfl := oi h
 refine nE ?_
 exact ⟨_, _, _, I, I2, J4, [0], I, by decide⟩
 rintro ab s ob ⟨rfl, rfl⟩ he
 subst he
 have h := Dh aa
 have b0 := Dj a.Segments.length
 refine Aq I (Aa fun e8 e9 => Av (v := false) I b0 (nO ?_))
 exact lg ⟨(), h, I2⟩ [0]
 rintro s ob ⟨Z, h, rfl, rfl⟩
 unfold G6.J1 at h
 refine Aa fun fa b1 => ?_
 obtain ⟨f, b3, h⟩ := Ac h
 refine nD (Ap 1 [.o 0 0] I J1 (nG [] I (Bp I I I (cD _ _ b3) dS ?_)))
 rintro _ _ ⟨rfl, rfl⟩
 refine nG [] I (nN (cs := [.N, .N, .N, .N]) (m := 4) I I I I I dS fun E => nG [1] I (nU 1 0 0 (es' := [f.l.map (cL 1 rS)]) I I I I I I I (by simp [Arr.h, Bv]) (by simp [Arr.h, Bv]) I (congrArg (fun r => [r]) (Lx (by simp [Arr.h, Bv]))) (nE ?_)))
 subst b1
 refine Al (fun s ob => ∃ (ad : Unit), G6.J2 a f ad = some r ∧ s = [] ∧ ob = [.arr b 32 6 1 [Ab a], .arr E 158 4 1 [f.l.map (cL 1 rS)]]) [(1, _), (5, _)] J2 ?_ ?_
 refine Aa fun fb b4 => nD (nS (Bx 1 0 0 I I I I I (y := .agg (f.l.map (cL 1 rS))) (Lz I (by simp [Arr.h, Bv]))) I (Af 1 I (nE ?_)))
 subst b4
 refine nJ ?_
 have b5 : (4 : Nat) ≤ 9223372036854775806 := by decide
 obtain ⟨fc, b6, ae⟩ := Ac h
 clear h
 refine Ga b6 [(1, _), (5, _), (65, _)] J3 (fun (F : Nat) (af : Unit) s ob => s = [(66, .V (F : Int))] ∧ ob = [.arr b 32 6 1 [Ab a], .arr E 158 4 1 [f.l.map (cL 1 rS)]]) ⟨I, I⟩ ⟨I, J⟩ ⟨[0, 1], I, by decide⟩ ?_ ?_
 rintro F af b7 s ob b8 ⟨rfl, rfl⟩ h b9
 unfold G6.B21 at h
 have ca : decide ((F : Int) < 4) = true := decide_eq_true (by omega)
 refine Aq I (Aa fun fd cb => Av (v := true) I ca (nI ?_))
 subst cb
 refine Al (fun s ob => ∃ (ag : Unit), G6.J22 ag = some b7 ∧ s = [] ∧ ob = [.arr b 32 6 1 [Ab a], .arr E 158 4 1 [f.l.map (cL 1 rS)]]) [(1, _), (5, _), (65, _), (66, _)] J4 ?_ ?_
 refine nJ (Aa fun fe cc => ?_)
 obtain ⟨U, ⟨cd, ce⟩, h⟩ := Bk h
 refine nD (Ck (Ge (m := U.1) I I I I I I I cd ce (hlen := Arr.h _)) I (Af 1 I (nE ?_)))
 subst cc
 refine Bu [.l 1 (U.2.length : Int)] I ⟨Bh, J⟩ (nJ (Cz 69 I fun cf => ?_))
 obtain ⟨ff, cg, ah⟩ := Ac h
 clear h
 refine C1 cg [(1, _), (5, _), (65, _), (66, _), (69, _), (70, _)] J6 (fun (G : Nat) (ai : Unit) s ob => s = [(71, .V (G : Int))] ∧ ob = [.arr b 32 6 1 [Ab a], .arr E 158 4 1 [f.l.map (cL 1 rS)]]) ⟨I, I⟩ ⟨I, J⟩ ⟨[0, 1], I, by decide⟩ ?_ ?_
 rintro G ci ai fg s ob cj aj ⟨rfl, rfl⟩ h ck
 unfold G6.B23 at h
 have cl := Di aj
 refine Aq I (Aa fun fh cm => Av (v := true) I cl (nI ?_))
 subst cm
 refine nH (nJ (Bu [.x 0 G (rS ci)] I ⟨⟨I, Ah cj⟩, J⟩ (nH ?_)))
 obtain ⟨fi, cn, h⟩ := Ac h
 refine nD (Af 1 I (Cg (cC _ _ cn) (Af 1 I (nE (Ay h I ?_ ?_)))))
 intro co h
 refine Aq I ?_
 obtain rfl := ck _ (oi h).symm
 replace h := ah
 replace h := Do h
 obtain rfl := b9 _ (oi h).symm
 replace h := ae
 replace h := Do h
 refine nM g0 ?_
 obtain rfl := oi h
 exact nK pr
 intro co h
 refine nI (nD (Ap 2 [.k 0 (G + 1 : Nat)] I ⟨Bt aj cf, J⟩ ?_))
 obtain rfl := oi h
 refine nE ?_
 exact ⟨_, _, _, I, I2, J7, [0, 1], I, by decide⟩
 rintro ai s ob ⟨rfl, rfl⟩ he
 subst he
 have h := Dh ah
 have cp := Dj U.2.length
 refine Aq I (Aa fun fj fk => Av (v := false) I cp (nO ?_))
 exact lg ⟨(), h, I2⟩ [0, 1]
 rintro s ob ⟨ag, h, rfl, rfl⟩
 unfold G6.J22 at h
 refine nD (Ap 2 [.k 0 (F + 1 : Nat)] I ⟨Bt b8 b5, J⟩ ?_)
 obtain rfl := oi h
 refine nE ?_
 exact ⟨_, _, _, I, I2, J4, [0, 1], I, by decide⟩
 rintro af s ob ⟨rfl, rfl⟩ he
 subst he
 have h := Dh ae
 have cq : decide (((4 : Nat) : Int) < 4) = false := by simp
 refine Aq I (Aa fun fl fm => Av (v := false) I cq (nO ?_))
 exact lg ⟨(), h, I2⟩ [0, 1]
 rintro s ob ⟨ad, h, rfl, rfl⟩
 unfold G6.J2 at h
 refine Al (fun s ob => ∃ (ak : Unit), G6.J3 a ak = some r ∧ s = [] ∧ ob = [.arr b 32 6 1 [Ab a]]) [(1, _)] J1 ?_ ?_
 refine Aa fun fn cr => nD (nS (Bx 1 0 0 I I I I I (y := .agg (f.l.map (cL 1 rS))) (Lz I (by simp [Arr.h, Bv]))) I (Af 1 I (nE ?_)))
 subst cr
 refine nJ ?_
 have ct : (4 : Nat) ≤ 9223372036854775806 := by decide
 obtain ⟨fo, cu, al⟩ := Ac h
 clear h
 refine Ga cu [(1, _), (80, _)] J2 (fun (H : Nat) (am : Unit) s ob => s = [(81, .V (H : Int))] ∧ ob = [.arr b 32 6 1 [Ab a]]) ⟨I, I⟩ ⟨I, J⟩ ⟨[0], I, by decide⟩ ?_ ?_
 rintro H am fp s ob cv ⟨rfl, rfl⟩ h cw
 unfold G6.B20 at h
 have cx : decide ((H : Int) < 4) = true := decide_eq_true (by omega)
 refine Aq I (Aa fun fq cy => Av (v := true) I cx (nI ?_))
 subst cy
 refine nH (nJ (nH ?_))
 obtain ⟨cz, ⟨c0, c1⟩, h⟩ := Bk h
 refine nD (Ck (Ge (m := cz.1) I I I I I I I c0 c1 (hlen := Arr.h _)) I (Af 1 I (nE (nH ?_))))
 obtain ⟨fr, c2, h⟩ := Ac h
 refine nD (Af 1 I (Cg (dH _ _ c2) (nE (Ay h I ?_ ?_))))
 intro c3 h
 refine Aq I ?_
 obtain rfl := cw _ (oi h).symm
 replace h := al
 replace h := Do h
 refine nM g0 ?_
 obtain rfl := oi h
 exact nK pr
 intro c3 h
 refine nI (nD (Ap 2 [.k 0 (H + 1 : Nat)] I ⟨Bt cv ct, J⟩ ?_))
 obtain rfl := oi h
 refine nE ?_
 exact ⟨_, _, _, I, I2, J3, [0], I, by decide⟩
 rintro am s ob ⟨rfl, rfl⟩ he
 subst he
 have h := Dh al
 have c4 : decide (((4 : Nat) : Int) < 4) = false := by simp
 refine Aq I (Aa fun fs ft => Av (v := false) I c4 (nO ?_))
 exact lg ⟨(), h, I2⟩ [0]
 rintro s ob ⟨ak, h, rfl, rfl⟩
 unfold G6.J3 at h
 refine Al (fun s ob => ∃ (an : Unit), G6.J4 a an = some r ∧ s = [] ∧ ob = [.arr b 32 6 1 [Ab a]]) [(1, _)] J1 ?_ ?_
 refine Bu [.o 1 0, .l 2 (a.Stations.length : Int)] I ⟨Bh, I, J⟩ (nJ (Cz 88 I fun c5 => ?_))
 obtain ⟨fu, c6, ao⟩ := Ac h
 clear h
 refine C1 c6 [(1, _), (89, _)] J2 (fun (K : Nat) (ap : Unit) s ob => s = [(90, .V (K : Int))] ∧ ob = [.arr b 32 6 1 [Ab a]]) ⟨I, I⟩ ⟨I, J⟩ ⟨[0], I, by decide⟩ ?_ ?_
 rintro K c7 ap c8 s ob c9 aq ⟨rfl, rfl⟩ h da
 unfold G6.B17 at h
 have db := Di aq
 refine Aq I (Aa fun fv dc => Av (v := true) I db (nI ?_))
 subst dc
 refine Al (fun s ob => ∃ (ar : Unit), G6.J18 ar = some c8 ∧ s = [] ∧ ob = [.arr b 32 6 1 [Ab a]]) [(1, _), (89, _), (90, _)] J3 ?_ ?_
 refine nJ (Aq I (Aq I (nJ ?_)))
 obtain ⟨fw, dd, au⟩ := Ac h
 clear h
 refine Bz dd [(1, _), (12, _), (89, _), (90, _)] J4 (fun (av : Int) s ob => s = [(13, .V av)] ∧ ob = [.arr b 32 6 1 [Ab a]]) ⟨I, I⟩ ⟨I, J⟩ ⟨[0], I, by decide⟩ ?_
 rintro av fx s ob ⟨rfl, rfl⟩ h aw
 unfold G6.B19 at h
 refine Aa fun fy de => Aq I (Ay h I ?_ ?_)
 intro df h
 refine nI ?_
 subst de
 refine nH (nJ (nH ?_))
 obtain ⟨ax, ⟨dg, dh⟩, h⟩ := Bk h
 refine U4 (pd 13 0 []) [0] [_] [.o 1 0, .x 3 K (A4 c7), .o 7 0, .x 9 ax.1 (A4 ax.2)] I I ⟨⟨dg, Ah dh⟩, I, ⟨I, Ah c9⟩, I, J⟩ (Ay h I ?_ ?_)
 intro di h
 refine Aq I ?_
 obtain rfl := aw _ (oi h).symm
 replace h := au
 replace h := Dh h
 obtain rfl := da _ (oi h).symm
 replace h := ao
 replace h := Do h
 refine nM g0 ?_
 obtain rfl := oi h
 exact nK pr
 intro di h
 refine nI (nD (Af 3 I ?_))
 obtain rfl := oi h
 refine nE ?_
 exact ⟨_, _, _, I, I2, J5, [0], I, by decide⟩
 intro df h
 obtain rfl := aw _ (oi h).symm
 replace h := au
 replace h := Do h
 refine nO ?_
 exact lg ⟨(), h, I2⟩ [0]
 rintro s ob ⟨ar, h, rfl, rfl⟩
 unfold G6.J18 at h
 refine nD (Ap 2 [.k 0 (K + 1 : Nat)] I ⟨Bt aq c5, J⟩ ?_)
 obtain rfl := oi h
 refine nE ?_
 exact ⟨_, _, _, I, I2, J3, [0], I, by decide⟩
 rintro ap s ob ⟨rfl, rfl⟩ he
 subst he
 have h := Dh ao
 have dj := Dj a.Stations.length
 refine Aq I (Aa fun fz f0 => Av (v := false) I dj (nO ?_))
 exact lg ⟨(), h, I2⟩ [0]
 rintro s ob ⟨an, h, rfl, rfl⟩
 unfold G6.J4 at h
 refine Bu [.o 1 0, .l 2 (a.Nodes.length : Int)] I ⟨Bh, I, J⟩ (Al (fun s ob => ∃ (ay : Unit), G6.J5 a ay = some r ∧ s = [] ∧ ob = [.arr b 32 6 1 [Ab a]]) [(1, _), (14, _)] J2 ?_ ?_)
 refine Bu [.o 1 0, .l 2 (a.Segments.length : Int)] I ⟨Bh, I, J⟩ (nJ (Cz 117 I fun dk => ?_))
 obtain ⟨f1, dl, az⟩ := Ac h
 clear h
 refine C1 dl [(1, _), (14, _), (117, _), (118, _)] J4 (fun (M : Nat) (a0 : Unit) s ob => s = [(119, .V (M : Int))] ∧ ob = [.arr b 32 6 1 [Ab a]]) ⟨I, I⟩ ⟨I, J⟩ ⟨[0], I, by decide⟩ ?_ ?_
 rintro M i a0 f2 s ob dm a1 ⟨rfl, rfl⟩ h dn
 unfold G6.B16 at h
 have dp := Di a1
 refine Aq I (Aa fun f3 dq => Av (v := true) I dp (nI ?_))
 subst dq
 refine nH (nJ (Aa fun f4 dr => nD (Ap 2 [.x 0 M (Ar i)] I ⟨⟨I, Ah dm⟩, J⟩ (nG [] I (nN (cs := [.v (.string ⟨#[]⟩), .V 0, .V 0, .V 0, .V 0, .V 0, .N]) (m := 7) I I I I I dS fun f5 => nG [1] I (Ax 1 0 0 [Ar i] I (nE ?_)))))))
 subst dr
 refine Dt 134 ((!(Cl i.From 0 (wr ((a.Nodes.length : Int) - 1)))) || (!(Cl i.To 0 (wr ((a.Nodes.length : Int) - 1))))) ?_ ?_
 refine nD (Ap 3 [.o 1 1] I J1 (Cg (Df i.From 0 (wr ((a.Nodes.length : Int) - 1)) _ I) (Af 2 I ?_)))
 rcases bt ((!(Cl i.From 0 (wr ((a.Nodes.length : Int) - 1))))) with u | u
 refine Ad 128 I u (Af 6 I (nE ?_))
 exact jf (by simp only [u, bz]) I I I2
 refine Ad 128 I u (Ap 3 [.o 1 1] I J1 (Br I I I (Cg (Df i.To 0 (wr ((a.Nodes.length : Int) - 1)) _ I) (Af 2 I (nE ?_)))))
 exact jf (by simp only [u, bz]) I I I2
 refine Ay h I ?_ ?_
 intro ds h
 refine Aq I ?_
 obtain rfl := dn _ (oi h).symm
 replace h := az
 replace h := Do h
 refine nM g0 ?_
 obtain rfl := oi h
 exact nK pr
 intro ds h
 refine nI (nD (Ap 2 [.k 0 (M + 1 : Nat)] I ⟨Bt a1 dk, J⟩ ?_))
 obtain rfl := oi h
 refine nE ?_
 exact ⟨_, _, _, I, I2, J5, [0], I, by decide⟩
 rintro a0 s ob ⟨rfl, rfl⟩ he
 subst he
 have h := Dh az
 have du := Dj a.Segments.length
 refine Aq I (Aa fun f6 f7 => Av (v := false) I du (nO ?_))
 exact lg ⟨(), h, I2⟩ [0]
 rintro s ob ⟨ay, h, rfl, rfl⟩
 unfold G6.J5 at h
 refine Al (fun s ob => ∃ (a2 : Unit), G6.J6 a a2 = some r ∧ s = [] ∧ ob = [.arr b 32 6 1 [Ab a]]) [(1, _), (14, _)] J2 ?_ ?_
 refine Bu [.o 1 0, .l 2 (a.Ports.length : Int)] I ⟨Bh, I, J⟩ (nJ (Cz 137 I fun dv => ?_))
 obtain ⟨f8, dw, a3⟩ := Ac h
 clear h
 refine C1 dw [(1, _), (14, _), (137, _), (138, _)] J4 (fun (O : Nat) (a4 : Unit) s ob => s = [(139, .V (O : Int))] ∧ ob = [.arr b 32 6 1 [Ab a]]) ⟨I, I⟩ ⟨I, J⟩ ⟨[0], I, by decide⟩ ?_ ?_
 rintro O W a4 f9 s ob dx a5 ⟨rfl, rfl⟩ h dy
 unfold G6.B15 at h
 have dz := Di a5
 refine Aq I (Aa fun ga d0 => Av (v := true) I dz (nI ?_))
 subst d0
 refine nH (nJ (nH (nD (Ap 2 [.x 0 O (Bj W)] I ⟨⟨I, Ah dx⟩, J⟩ (nG [] I (nN (cs := [.v (.string ⟨#[]⟩), .V 0, .V 0]) (m := 3) I I I I I dS fun gb => nG [1] I (Ax 1 0 0 [Bj W] I (nE (nH (nD (Ap 3 [.o 1 1] I J1 (Cg (Df W.Node 0 (wr ((a.Nodes.length : Int) - 1)) _ I) (Af 1 I ?_)))))))))))))
 refine nE (Ay h I ?_ ?_)
 intro d1 h
 refine Aq I ?_
 obtain rfl := dy _ (oi h).symm
 replace h := a3
 replace h := Do h
 refine nM g0 ?_
 obtain rfl := oi h
 exact nK pr
 intro d1 h
 refine nI (nD (Ap 2 [.k 0 (O + 1 : Nat)] I ⟨Bt a5 dv, J⟩ ?_))
 obtain rfl := oi h
 refine nE ?_
 exact ⟨_, _, _, I, I2, J5, [0], I, by decide⟩
 rintro a4 s ob ⟨rfl, rfl⟩ he
 subst he
 have h := Dh a3
 have d2 := Dj a.Ports.length
 refine Aq I (Aa fun gc gd => Av (v := false) I d2 (nO ?_))
 exact lg ⟨(), h, I2⟩ [0]
 rintro s ob ⟨a2, h, rfl, rfl⟩
 unfold G6.J6 at h
 refine Al (fun s ob => ∃ (a6 : Unit), G6.J7 a a6 = some r ∧ s = [] ∧ ob = [.arr b 32 6 1 [Ab a]]) [(1, _)] J1 ?_ ?_
 refine Bu [.o 1 0, .l 2 (a.Stations.length : Int)] I ⟨Bh, I, J⟩ (nJ (Cz 150 I fun d3 => ?_))
 obtain ⟨ge, d4, a7⟩ := Ac h
 clear h
 refine C1 d4 [(1, _), (14, _), (150, _), (151, _)] J4 (fun (P : Nat) (a8 : Unit) s ob => s = [(152, .V (P : Int))] ∧ ob = [.arr b 32 6 1 [Ab a]]) ⟨I, I⟩ ⟨I, J⟩ ⟨[0], I, by decide⟩ ?_ ?_
 rintro P X a8 gf s ob d5 a9 ⟨rfl, rfl⟩ h d6
 unfold G6.B14 at h
 have d7 := Di a9
 refine Aq I (Aa fun gg d8 => Av (v := true) I d7 (nI ?_))
 subst d8
 refine nH (nJ (nH (nD (Ap 2 [.x 0 P (A4 X)] I ⟨⟨I, Ah d5⟩, J⟩ (nG [] I (nN (cs := [.v (.string ⟨#[]⟩), .V 0, .V 0, .V 0, .V 0]) (m := 5) I I I I I dS fun gh => nG [1] I (Ax 1 0 0 [A4 X] I (nE (nH (nD (Ap 3 [.o 1 1] I J1 (Cg (Df X.Node 0 (wr ((a.Nodes.length : Int) - 1)) _ I) (Af 1 I ?_)))))))))))))
 refine nE (Ay h I ?_ ?_)
 intro d9 h
 refine Aq I ?_
 obtain rfl := d6 _ (oi h).symm
 replace h := a7
 replace h := Do h
 refine nM g0 ?_
 obtain rfl := oi h
 exact nK pr
 intro d9 h
 refine nI (nD (Ap 2 [.k 0 (P + 1 : Nat)] I ⟨Bt a9 d3, J⟩ ?_))
 obtain rfl := oi h
 refine nE ?_
 exact ⟨_, _, _, I, I2, J5, [0], I, by decide⟩
 rintro a8 s ob ⟨rfl, rfl⟩ he
 subst he
 have h := Dh a7
 have ea := Dj a.Stations.length
 refine Aq I (Aa fun gi gj => Av (v := false) I ea (nO ?_))
 exact lg ⟨(), h, I2⟩ [0]
 rintro s ob ⟨a6, h, rfl, rfl⟩
 unfold G6.J7 at h
 refine Al (fun s ob => ∃ (ba : Unit), G6.J8 a ba = some r ∧ s = [] ∧ ob = [.arr b 32 6 1 [Ab a]]) [(1, _)] J1 ?_ ?_
 refine Bu [.o 1 0, .l 2 (a.Segments.length : Int)] I ⟨Bh, I, J⟩ (nJ (Cz 163 I fun eb => ?_))
 obtain ⟨gk, ec, bb⟩ := Ac h
 clear h
 refine C1 ec [(1, _), (163, _), (164, _)] J3 (fun (Q : Nat) (bc : Unit) s ob => s = [(165, .V (Q : Int))] ∧ ob = [.arr b 32 6 1 [Ab a]]) ⟨I, I⟩ ⟨I, J⟩ ⟨[0], I, by decide⟩ ?_ ?_
 rintro Q bd bc gl s ob ed be ⟨rfl, rfl⟩ h ee
 unfold G6.B13 at h
 have ef := Di be
 refine Aq I (Aa fun gm eg => Av (v := true) I ef (nI ?_))
 subst eg
 refine nH (nJ (nH (nD (Ap 2 [.x 0 Q (Ar bd)] I ⟨⟨I, Ah ed⟩, J⟩ (nG [] I (nN (cs := [.v (.string ⟨#[]⟩), .V 0, .V 0, .V 0, .V 0, .V 0, .N]) (m := 7) I I I I I dS fun gn => nG [1] I (Ax 1 0 0 [Ar bd] I (nE (nH ?_)))))))))
 obtain ⟨go, eh, h⟩ := Ac h
 refine nD (Ap 1 [.o 0 1] I J1 (Cg (bY _ _ eh) (Af 1 I (nE (Ay h I ?_ ?_)))))
 intro ei h
 refine Aq I ?_
 obtain rfl := ee _ (oi h).symm
 replace h := bb
 replace h := Do h
 refine nM g0 ?_
 obtain rfl := oi h
 exact nK pr
 intro ei h
 refine nI (nD (Ap 2 [.k 0 (Q + 1 : Nat)] I ⟨Bt be eb, J⟩ ?_))
 obtain rfl := oi h
 refine nE ?_
 exact ⟨_, _, _, I, I2, J4, [0], I, by decide⟩
 rintro bc s ob ⟨rfl, rfl⟩ he
 subst he
 have h := Dh bb
 have ej := Dj a.Segments.length
 refine Aq I (Aa fun gp gq => Av (v := false) I ej (nO ?_))
 exact lg ⟨(), h, I2⟩ [0]
 rintro s ob ⟨ba, h, rfl, rfl⟩
 unfold G6.J8 at h
 refine Al (fun s ob => ∃ (bf : Unit), G6.J9 a bf = some r ∧ s = [] ∧ ob = [.arr b 32 6 1 [Ab a]]) [(1, _)] J1 ?_ ?_
 refine Bu [.o 1 0, .l 2 (a.Ports.length : Int)] I ⟨Bh, I, J⟩ (nJ (Cz 174 I fun ek => ?_))
 obtain ⟨gr, el, bg⟩ := Ac h
 clear h
 refine C1 el [(1, _), (174, _), (175, _)] J3 (fun (R : Nat) (bh : Unit) s ob => s = [(176, .V (R : Int))] ∧ ob = [.arr b 32 6 1 [Ab a]]) ⟨I, I⟩ ⟨I, J⟩ ⟨[0], I, by decide⟩ ?_ ?_
 rintro R Y bh gs s ob em bi ⟨rfl, rfl⟩ h en
 unfold G6.B12 at h
 have eo := Di bi
 refine Aq I (Aa fun gu ep => Av (v := true) I eo (nI ?_))
 subst ep
 refine nH (nJ (nH (nD (Ap 2 [.x 0 R (Bj Y)] I ⟨⟨I, Ah em⟩, J⟩ (nG [] I (nN (cs := [.v (.string ⟨#[]⟩), .V 0, .V 0]) (m := 3) I I I I I dS fun gv => nG [1] I (Ax 1 0 0 [Bj Y] I (nE (nH (nD (Ap 2 [.o 1 1] I J1 (Cg (Df Y.Pressure 0 100000000 _ I) (Af 1 I ?_)))))))))))))
 refine nE (Ay h I ?_ ?_)
 intro eq h
 refine Aq I ?_
 obtain rfl := en _ (oi h).symm
 replace h := bg
 replace h := Do h
 refine nM g0 ?_
 obtain rfl := oi h
 exact nK pr
 intro eq h
 refine nI (nD (Ap 2 [.k 0 (R + 1 : Nat)] I ⟨Bt bi ek, J⟩ ?_))
 obtain rfl := oi h
 refine nE ?_
 exact ⟨_, _, _, I, I2, J4, [0], I, by decide⟩
 rintro bh s ob ⟨rfl, rfl⟩ he
 subst he
 have h := Dh bg
 have er := Dj a.Ports.length
 refine Aq I (Aa fun gw gx => Av (v := false) I er (nO ?_))
 exact lg ⟨(), h, I2⟩ [0]
 rintro s ob ⟨bf, h, rfl, rfl⟩
 unfold G6.J9 at h
 refine Al (fun s ob => ∃ (bj : Unit), G6.J10 a bj = some r ∧ s = [] ∧ ob = [.arr b 32 6 1 [Ab a]]) [(1, _)] J1 ?_ ?_
 refine Bu [.o 1 0, .l 2 (a.Stations.length : Int)] I ⟨Bh, I, J⟩ (nJ (Cz 186 I fun es => ?_))
 obtain ⟨gy, et, bk⟩ := Ac h
 clear h
 refine C1 et [(1, _), (186, _), (187, _)] J3 (fun (S : Nat) (bl : Unit) s ob => s = [(188, .V (S : Int))] ∧ ob = [.arr b 32 6 1 [Ab a]]) ⟨I, I⟩ ⟨I, J⟩ ⟨[0], I, by decide⟩ ?_ ?_
 rintro S e bl gz s ob eu bm ⟨rfl, rfl⟩ h ev
 unfold G6.B11 at h
 have ew := Di bm
 refine Aq I (Aa fun g1 ex => Av (v := true) I ew (nI ?_))
 subst ex
 refine nH (nJ (Aa fun g2 ey => nD (Ap 2 [.x 0 S (A4 e)] I ⟨⟨I, Ah eu⟩, J⟩ (nG [] I (nN (cs := [.v (.string ⟨#[]⟩), .V 0, .V 0, .V 0, .V 0]) (m := 5) I I I I I dS fun g3 => nG [1] I (Ax 1 0 0 [A4 e] I (nE ?_)))))))
 subst ey
 refine Dt 207 ((!(Cl e.Head 0 100000000)) || ((!(Cl e.Fall 0 100000)) || (!(Cl e.Suction 0 100000000)))) ?_ ?_
 refine nD (Ap 2 [.o 1 1] I J1 (Cg (Df e.Head 0 100000000 _ I) (Af 2 I ?_)))
 rcases bt ((!(Cl e.Head 0 100000000))) with n | n
 refine Ad 196 I n (Af 11 I (nE ?_))
 exact jf (by simp only [n, bz]) I I I2
 refine Ad 196 I n (Ap 2 [.o 1 1] I J1 (Br I I I (Cg (Df e.Fall 0 100000 _ I) (Af 3 I ?_))))
 rcases bt ((!(Cl e.Fall 0 100000))) with w | w
 refine Ad 202 I w (Af 5 I (nE ?_))
 exact jf (by simp only [n, w, bz]) I I I2
 refine Ad 202 I w (Ap 2 [.o 1 1] I J1 (Br I I I (Cg (Df e.Suction 0 100000000 _ I) (Af 2 I (nE ?_)))))
 exact jf (by simp only [n, w, bz]) I I I2
 refine Ay h I ?_ ?_
 intro ez h
 refine Aq I ?_
 obtain rfl := ev _ (oi h).symm
 replace h := bk
 replace h := Do h
 refine nM g0 ?_
 obtain rfl := oi h
 exact nK pr
 intro ez h
 refine nI (nD (Ap 2 [.k 0 (S + 1 : Nat)] I ⟨Bt bm es, J⟩ ?_))
 obtain rfl := oi h
 refine nE ?_
 exact ⟨_, _, _, I, I2, J4, [0], I, by decide⟩
 rintro bl s ob ⟨rfl, rfl⟩ he
 subst he
 have h := Dh bk
 have e0 := Dj a.Stations.length
 refine Aq I (Aa fun g4 g5 => Av (v := false) I e0 (nO ?_))
 exact lg ⟨(), h, I2⟩ [0]
 rintro s ob ⟨bj, h, rfl, rfl⟩
 unfold G6.J10 at h
 refine nH (Dt 218 ((!(Cl a.Vapour (-100000) 100000000)) || (!(Cl a.Settle 0 100))) ?_ ?_)
 refine nD (Ap 2 [.o 1 0] I J1 (Cg (Df a.Vapour (-100000) 100000000 _ I) (Af 2 I ?_)))
 rcases bt ((!(Cl a.Vapour (-100000) 100000000))) with A | A
 refine Ad 213 I A (Af 5 I (nE ?_))
 exact jf (by simp only [A, bz]) I I I2
 refine Ad 213 I A (Ap 2 [.o 1 0] I J1 (Br I I I (Cg (Df a.Settle 0 100 _ I) (Af 2 I (nE ?_)))))
 exact jf (by simp only [A, bz]) I I I2
 refine Ay h I ?_ ?_
 intro e1 h
 refine Aq I (nM g0 ?_)
 obtain rfl := oi h
 exact nK pr
 intro e1 h
 refine nI (Aq I (nM g0 ?_))
 obtain rfl := oi h
 exact nK pr
theorem Tm (a : Segment) (b : Int) (r : Int × Int) (h : Iv a b = r) : ACalls Am 116 [.agg (Ar a), .V b] [] (fun x new => x = .tup [.V r.1, .V r.2] ∧ new = []) := by
 refine Ag Tryz.func116 rfl rfl rfl fun C hC => ?_
 unfold Iv at h
 refine Aa fun e c => nD (nG [] I (nQ (cs := Ar a) (m := 7) I I I dS fun f => Af 2 I (nE ?_)))
 subst c
 refine nH (Aq I (Ay h I ?_ ?_))
 intro d h
 refine Pk (pd 6 0 []) [0] [_] [.o 1 0, .o 3 0] I I J2 (nM g0 ?_)
 obtain rfl := h
 exact nK ⟨.inr I, [_, _], [], J2, Cf, I2⟩
 intro d h
 refine nI (Pk (pd 6 0 []) [0] [_] [.o 1 0, .o 3 0] I I J2 (nM g0 ?_))
 obtain rfl := h
 exact nK ⟨.inr I, [_, _], [], J2, Cf, I2⟩
theorem Tl (d : Network) (e : Plan) (n : Int) (r : Int × Int) (h : Jm d e n = some r) : ACalls Am 72 [.agg (Ab d), .agg (As e), .V n] [] (fun x new => x = .tup [.V r.1, .V r.2] ∧ new = []) := by
 refine Ag Tryz.func72 rfl rfl rfl fun C hC => ?_
 unfold Jm at h
 refine Aa fun y1 Q => nD (nG [] I (nQ (cs := Ab d) (m := 6) I I I dS fun p => nG [] I (nQ (cs := As e) (m := 3) I I I dS fun g => Af 2 I (nE ?_))))
 subst Q
 refine Aq I (Al (fun s ob => ∃ (t : Int × Int), Jm.J1 d e n t = some r ∧ s = [(8, .V t.1), (9, .V t.2)] ∧ ob = [.arr p 32 6 1 [Ab d], .arr g 37 3 1 [As e]]) [(2, _), (3, _), (4, _)] J3 ?_ ?_)
 refine Bu [.o 1 0, .l 2 (d.Segments.length : Int)] I ⟨Bh, I, J⟩ (nJ (Cz 17 I fun R => ?_))
 obtain ⟨ar, S, U⟩ := Ac h
 clear h
 refine Dl S [(2, _), (3, _), (4, _), (17, _), (18, _)] J5 (fun (u : Nat) (b : Int × Int) s ob => s = [(19, .V (u : Int)), (8, .V b.1), (9, .V b.2)] ∧ ob = [.arr p 32 6 1 [Ab d], .arr g 37 3 1 [As e]]) ⟨I, I⟩ ⟨I, I, I, J⟩ ⟨[0, 1], I, by decide⟩ ?_ ?_
 rintro u w b G s ob W H ⟨rfl, rfl⟩ h
 unfold Jm.B5 at h
 have X := Di H
 refine Aq I (Aa fun au Y => Av (v := true) I X (nI ?_))
 subst Y
 refine Al (fun s ob => ∃ (y : Int × Int), Jm.J6 y = some G ∧ s = [(8, .V y.1), (9, .V y.2)] ∧ ob = [.arr p 32 6 1 [Ab d], .arr g 37 3 1 [As e]]) [(2, _), (3, _), (4, _), (17, _), (18, _), (19, _)] J6 ?_ ?_
 refine nJ (Aa fun av Z => nD (Ap 3 [.x 1 u (Ar w)] I ⟨⟨I, Ah W⟩, J⟩ (nG [] I (nN (cs := [.v (.string ⟨#[]⟩), .V 0, .V 0, .V 0, .V 0, .V 0, .N]) (m := 7) I I I I I dS fun aw => Af 1 I (nG [2] I (Ax 2 0 0 [Ar w] I (nE ?_)))))))
 subst Z
 refine Aa fun ax aa => nH ?_
 obtain ⟨a, ⟨A, B⟩, h⟩ := Bk h
 refine I6 [.o 1 1, .x 3 a.1 (rI a.2)] I ⟨⟨A, Ah B⟩, I, J⟩ (Ay h I ?_ ?_)
 intro ab h
 refine nO ?_
 exact lg ⟨(b.1, b.2), h, I2⟩ [0, 1]
 intro ab h
 refine nI ?_
 subst aa
 refine Aa fun ay ac => Bw (pd 12 0 [6]) [2, 1] [_, _] I (By 6 [.o 0 0, .o 2 1, .x 4 a.1 (rI a.2)] I ⟨⟨A, Ah B⟩, I, I, J⟩ (Ee I (Tm w a.2 _ I) (Bm 5 I (Ak (nE ?_)))))
 subst ac
 refine Al (fun s ob => ∃ (j : Int), Jm.J7 n w b a j = some G ∧ s = [(9, .V j)] ∧ ob = [.arr p 32 6 1 [Ab d], .arr g 37 3 1 [As e]]) [(2, _), (3, _), (4, _), (8, _), (10, _), (13, _), (17, _), (18, _), (19, _)] J9 ?_ ?_
 refine Aq I (Ay h I ?_ ?_)
 intro ad h
 refine nD (Ap 6 [.o 2 1, .x 4 a.1 (rI a.2)] I ⟨⟨A, Ah B⟩, I, J⟩ (Cg (S7 a.2 _ I) (Af 2 I (nE ?_))))
 exact lg ⟨wr (b.2 + (Jh a.2)), h, I2⟩ [0, 1]
 intro ad h
 refine nI ?_
 exact lg ⟨b.2, h, I2⟩ [0, 1]
 rintro s ob ⟨j, h, rfl, rfl⟩
 unfold Jm.J7 at h
 refine Aq I (Ay h I ?_ ?_)
 intro ae h
 refine nD (Ap 6 [.o 2 1, .x 4 a.1 (rI a.2)] I ⟨⟨A, Ah B⟩, I, J⟩ (Cg (S7 a.2 _ I) (Af 2 I (nE ?_))))
 exact lg ⟨(wr (b.1 + (Jh a.2)), j), h, I2⟩ [0, 1]
 intro ae h
 refine nI ?_
 exact lg ⟨(b.1, j), h, I2⟩ [0, 1]
 rintro s ob ⟨y, h, rfl, rfl⟩
 unfold Jm.J6 at h
 refine nD (Ap 2 [.k 0 (u + 1 : Nat)] I ⟨Bt H R, J⟩ ?_)
 obtain rfl := oi h
 refine nE ?_
 exact lg I2 [0, 1]
 rintro b s ob ⟨rfl, rfl⟩ he
 subst he
 have h := U
 have af := Dj d.Segments.length
 refine Aq I (Aa fun az a0 => Av (v := false) I af (nO ?_))
 exact lg ⟨(b.1, b.2), h, I2⟩ [0, 1]
 rintro s ob ⟨t, h, rfl, rfl⟩
 unfold Jm.J1 at h
 refine Al (fun s ob => ∃ (D : Int × Int), Jm.J2 D = some r ∧ s = [(8, .V D.1), (9, .V D.2)] ∧ ob = []) [] J ?_ ?_
 refine Bu [.o 1 0, .l 2 (d.Ports.length : Int)] I ⟨Bh, I, J⟩ (nJ (Cz 64 I fun ag => ?_))
 obtain ⟨a1, ah, ai⟩ := Ac h
 clear h
 refine Dl ah [(2, _), (4, _), (64, _), (65, _)] J4 (fun (E : Nat) (f : Int × Int) s ob => s = [(66, .V (E : Int)), (8, .V f.1), (9, .V f.2)] ∧ ob = [.arr g 37 3 1 [As e]]) ⟨I, I⟩ ⟨I, I, I, J⟩ ⟨[1], I, by decide⟩ ?_ ?_
 rintro E K f aj s ob ak M ⟨rfl, rfl⟩ h
 unfold Jm.B3 at h
 have al := Di M
 refine Aq I (Aa fun a2 am => Av (v := true) I al (nI ?_))
 subst am
 refine Al (fun s ob => ∃ (F : Int × Int), Jm.J4 F = some aj ∧ s = [(8, .V F.1), (9, .V F.2)] ∧ ob = [.arr g 37 3 1 [As e]]) [(2, _), (4, _), (64, _), (65, _), (66, _)] J5 ?_ ?_
 refine nJ (Aa fun a3 an => nD (Ap 3 [.x 1 E (Bj K)] I ⟨⟨I, Ah ak⟩, J⟩ (nG [] I (nN (cs := [.v (.string ⟨#[]⟩), .V 0, .V 0]) (m := 3) I I I I I dS fun a4 => Af 1 I (nG [1] I (Ax 1 0 0 [Bj K] I (nE ?_)))))))
 subst an
 refine Bu [.o 1 1] I J1 (Ay h I ?_ ?_)
 intro ao h
 obtain ⟨i, ⟨O, P⟩, h⟩ := Bk h
 refine U4 (pd 19 0 []) [0] [_] [.o 2 0, .x 4 i.1 (rI i.2), .o 10 0, .x 12 i.1 (rI i.2)] I I ⟨⟨O, Ah P⟩, I, ⟨O, Ah P⟩, I, J⟩ ?_
 exact lg ⟨(wr (f.1 + (max 0 i.2)), wr (f.2 + (max 0 (wr (0 - i.2))))), h, I2⟩ [0]
 intro ao h
 refine nI ?_
 exact lg ⟨(f.1, f.2), h, I2⟩ [0]
 rintro s ob ⟨F, h, rfl, rfl⟩
 unfold Jm.J4 at h
 refine nD (Ap 2 [.k 0 (E + 1 : Nat)] I ⟨Bt M ag, J⟩ ?_)
 obtain rfl := oi h
 refine nE ?_
 exact lg I2 [0]
 rintro f s ob ⟨rfl, rfl⟩ he
 subst he
 have h := ai
 have ap := Dj d.Ports.length
 refine Aq I (Aa fun a5 a6 => Av (v := false) I ap (nO ?_))
 exact lg ⟨(f.1, f.2), h, I2⟩ []
 rintro s ob ⟨D, h, rfl, rfl⟩
 unfold Jm.J2 at h
 refine Aq I ?_
 obtain rfl := oi h
 exact nK ⟨.inr I, [_, _], [], J2, Cf, I2⟩
theorem dG (b : Network) (g : Plan) (r : List Int) (h : Qm b g = some r) : ACalls Am 73 [.agg (Ab b), .agg (As g)] [] (fun x new => ∃ (R : Value), x = .v R ∧ new = [.us R 3 1 (r.map rI)]) := by
 refine Ag Tryz.func73 rfl rfl rfl fun C hC => ?_
 unfold Qm at h
 refine Aa fun y1 ad => nD (nG [] I (nQ (cs := Ab b) (m := 6) I I I dS fun i => nG [] I (nQ (cs := As g) (m := 3) I I I dS fun j => Af 1 I (nE ?_))))
 subst ad
 refine Aq I (Aa fun y5 ae => ?_)
 obtain ⟨l6, ⟨m8, af, ag, ah⟩, h⟩ := Hx h
 refine nD (Ap 3 [.o 1 0, .l 2 (b.Nodes.length : Int)] I ⟨Bh, I, J⟩ (nG [] I (A3 (sz := 1) I I I I I I I I I I af ag (Be (f := rB) ah I) dS fun n => Af 1 I (nE ?_))))
 subst ae
 refine nJ (nM (Bo 3 1) ?_)
 obtain ⟨bj, ai, aj⟩ := Ac h
 clear h
 refine Bz ai [(2, _), (3, _), (6, _)] J3 (fun (a : (List Int) × (List Bool)) s ob => ∃ (e : Value), s = [(5, .v e)] ∧ ob = [.arr i 32 6 1 [Ab b], .arr j 37 3 1 [As g], .us n 4 1 (a.2.map rB), .us e 3 1 (a.1.map rI)]) ⟨(.slice none 0 0), I2⟩ ⟨I, J⟩ ⟨[0, 1, 2, 3], I, by decide⟩ ?_
 rintro a ak s ob ⟨e, rfl, rfl⟩ h al
 unfold Qm.B1 at h
 refine nJ (Aq I (Al (fun s ob => ∃ (G : Int), Qm.J2 a G = some ak ∧ s = [(7, .V G)] ∧ ob = [.arr i 32 6 1 [Ab b], .arr j 37 3 1 [As g], .us n 4 1 (a.2.map rB), .us e 3 1 (a.1.map rI)]) [(2, _), (3, _), (5, _), (6, _)] J4 ?_ ?_))
 refine Bu [.o 1 0, .l 2 (b.Nodes.length : Int)] I ⟨Bh, I, J⟩ (nJ (Cz 19 I fun am => ?_))
 obtain ⟨bk, an, ao⟩ := Ac h
 clear h
 refine Dl an [(2, _), (3, _), (5, _), (6, _), (20, _)] J5 (fun (u : Nat) (p : Int) s ob => s = [(21, .V (u : Int)), (7, .V p)] ∧ ob = [.arr i 32 6 1 [Ab b], .arr j 37 3 1 [As g], .us n 4 1 (a.2.map rB), .us e 3 1 (a.1.map rI)]) ⟨I, I⟩ ⟨I, I, J⟩ ⟨[0, 1, 2, 3], I, by decide⟩ ?_ ?_
 rintro u bl p S s ob bm U ⟨rfl, rfl⟩ h
 unfold Qm.B3 at h
 have aq := Di U
 refine Aq I (Aa fun bn ar => Av (v := true) I aq (nI ?_))
 subst ar
 refine Al (fun s ob => ∃ (O : Int), Qm.J4 O = some S ∧ s = [(7, .V O)] ∧ ob = [.arr i 32 6 1 [Ab b], .arr j 37 3 1 [As g], .us n 4 1 (a.2.map rB), .us e 3 1 (a.1.map rI)]) [(2, _), (3, _), (5, _), (6, _), (20, _), (21, _)] J6 ?_ ?_
 refine nJ (Aq I (Aa fun bo au => ?_))
 obtain ⟨P, ⟨av, W⟩, h⟩ := Bk h
 refine nD (Af 2 I (nS (Bi 2 (m := P.1) I I I I I I I av (Ah W)) I (nS (Ba 2 P.1 0 I I I (Ah W) I (y := .v (.bool P.2)) I) I (Af 2 I (nE ?_)))))
 subst au
 refine Al (fun s ob => ∃ (B : Bool), Qm.J5 u p B = some S ∧ s = [(9, .v (.bool B))] ∧ ob = [.arr i 32 6 1 [Ab b], .arr j 37 3 1 [As g], .us n 4 1 (a.2.map rB), .us e 3 1 (a.1.map rI)]) [(2, _), (3, _), (5, _), (6, _), (7, _), (8, _), (20, _), (21, _)] J8 ?_ ?_
 refine Bu [.o 1 0, .l 2 (b.Segments.length : Int)] I ⟨Bh, I, J⟩ (nJ (Cz 30 I fun aw => ?_))
 obtain ⟨bp, ax, ay⟩ := Ac h
 clear h
 refine Dl ax [(2, _), (3, _), (5, _), (6, _), (7, _), (8, _), (20, _), (21, _), (30, _), (31, _)] kK (fun (H : Nat) (w : Bool) s ob => s = [(32, .V (H : Int)), (9, .v (.bool w))] ∧ ob = [.arr i 32 6 1 [Ab b], .arr j 37 3 1 [As g], .us n 4 1 (a.2.map rB), .us e 3 1 (a.1.map rI)]) ⟨I, I⟩ ⟨I, I, J⟩ ⟨[0, 1, 2, 3], I, by decide⟩ ?_ ?_
 rintro H K w az s ob a0 X ⟨rfl, rfl⟩ h
 unfold Qm.B6 at h
 have a1 := Di X
 refine Aq I (Aa fun bq a2 => Av (v := true) I a1 (nI ?_))
 subst a2
 refine Al (fun s ob => ∃ (Q : Bool), Qm.J7 Q = some az ∧ s = [(9, .v (.bool Q))] ∧ ob = [.arr i 32 6 1 [Ab b], .arr j 37 3 1 [As g], .us n 4 1 (a.2.map rB), .us e 3 1 (a.1.map rI)]) [(2, _), (3, _), (5, _), (6, _), (7, _), (8, _), (20, _), (21, _), (30, _), (31, _), (32, _)] kJ ?_ ?_
 refine nJ (Aa fun br a3 => nD (Ap 3 [.x 1 H (Ar K)] I ⟨⟨I, Ah a0⟩, J⟩ (nG [] I (nN (cs := [.v (.string ⟨#[]⟩), .V 0, .V 0, .V 0, .V 0, .V 0, .N]) (m := 7) I I I I I dS fun bs => Af 1 I (nG [4] I (Ax 4 0 0 [Ar K] I (nE ?_)))))))
 subst a3
 refine Aa fun bu a4 => ?_
 obtain ⟨A, ⟨Y, Z⟩, h⟩ := Bk h
 refine I6 [.o 1 1, .x 3 A.1 (rI A.2)] I ⟨⟨Y, Ah Z⟩, I, J⟩ ?_
 subst a4
 refine Ay h I ?_ ?_
 intro a5 h
 refine Aa fun bv a6 => Bw (pd 12 0 [6]) [4, 1] [_, _] I (By 6 [.o 0 0, .o 2 1, .x 4 A.1 (rI A.2)] I ⟨⟨Y, Ah Z⟩, I, I, J⟩ (Ee I (Tm K A.2 _ I) (Bm 5 I (Ak (nE ?_)))))
 subst a6
 refine nD (Af 2 I ?_)
 rcases bt (w) with D | D
 replace h := B0 D h
 refine Ad 54 I D ?_
 rcases bt ((((Iv K A.2).2) != (u : Int))) with E | E
 replace h := B0 E h
 refine Af 4 I (Ad 58 I E (Af 7 I (nE ?_)))
 exact lg ⟨true, h, I2⟩ [0, 1, 2, 3]
 replace h := Ca E h
 obtain ⟨M, ⟨a7, aa⟩, h⟩ := Bk h
 refine Af 4 I (Ad 58 I E (Af 2 I (Br I I I (nS (Bi 2 (m := M.1) I I I I I I I a7 (Ah aa)) I (Br I I I (nS (Ba 2 M.1 0 I I I (Ah aa) I (y := .v (.bool M.2)) I) I (Af 3 I (nE ?_))))))))
 exact lg ⟨M.2, h, I2⟩ [0, 1, 2, 3]
 replace h := Ca D h
 refine Ad 54 I D (Af 4 I (Cq I I dS (Cq I I dS (Cq I I dS (Cq I I dS (Af 3 I (nE ?_)))))))
 exact lg ⟨false, h, I2⟩ [0, 1, 2, 3]
 intro a5 h
 refine nI ?_
 exact lg ⟨w, h, I2⟩ [0, 1, 2, 3]
 rintro s ob ⟨Q, h, rfl, rfl⟩
 unfold Qm.J7 at h
 refine nD (Ap 2 [.k 0 (H + 1 : Nat)] I ⟨Bt X aw, J⟩ ?_)
 obtain rfl := oi h
 refine nE ?_
 exact lg I2 [0, 1, 2, 3]
 rintro w s ob ⟨rfl, rfl⟩ he
 subst he
 have h := ay
 have a8 := Dj b.Segments.length
 refine Aq I (Aa fun bw bx => Av (v := false) I a8 (nO ?_))
 exact lg ⟨w, h, I2⟩ [0, 1, 2, 3]
 rintro s ob ⟨B, h, rfl, rfl⟩
 unfold Qm.J5 at h
 refine Dt 70 (B && decide (p < 0)) ?_ ?_
 refine nD (Af 2 I ?_)
 rcases bt (B) with F | F
 refine Ad 67 I F (Af 3 I (nE ?_))
 exact jf (by simp only [F, bz]) I I I2
 refine Ad 67 I F (Af 3 I (nE ?_))
 exact jf (by simp only [F, bz]) I I I2
 refine Ay h I ?_ ?_
 intro a9 h
 refine Pd I ?_
 exact lg ⟨(u : Int), h, I2⟩ [0, 1, 2, 3]
 intro a9 h
 refine nI ?_
 exact lg ⟨p, h, I2⟩ [0, 1, 2, 3]
 rintro s ob ⟨O, h, rfl, rfl⟩
 unfold Qm.J4 at h
 refine nD (Ap 2 [.k 0 (u + 1 : Nat)] I ⟨Bt U am, J⟩ ?_)
 obtain rfl := oi h
 refine nE ?_
 exact lg I2 [0, 1, 2, 3]
 rintro p s ob ⟨rfl, rfl⟩ he
 subst he
 have h := ao
 have ba := Dj b.Nodes.length
 refine Aq I (Aa fun b0 b1 => Av (v := false) I ba (nO ?_))
 exact lg ⟨p, h, I2⟩ [0, 1, 2, 3]
 rintro s ob ⟨G, h, rfl, rfl⟩
 unfold Qm.J2 at h
 refine nH (Aq I (Ay h I ?_ ?_))
 intro bb h
 refine Aq I ?_
 obtain rfl := al _ (oi h).symm
 replace h := aj
 refine Cb [3] I ?_
 obtain rfl := oi h
 exact nK ⟨.inr I, [_], [.us e 3 1 (a.1.map rI)], J1, Dn I (Cf), ⟨e, I2⟩⟩
 intro bb h
 refine nI (nH ?_)
 obtain ⟨b4, bc, h⟩ := Ac h
 refine nD (Af 2 I (nG [] I (nR 1 (([G] : List Int).map rI) (nG [3] I (Bf 3 I bc fun bd => Af 1 I (nE ?_))))))
 obtain ⟨ab, ⟨be, ac⟩, h⟩ := Bk h
 refine nD (Af 2 I (nS (Bi 2 (m := ab.1) I I I I I I I be (Ah ac)) I (nG [2] I (Ci 2 ab.1 0 I I I (Ah ac) I I I I (Bs I) I (Dp (x := true) I) ?_))))
 obtain rfl := oi h
 refine nE ?_
 exact ⟨_, _, _, I, ⟨bd, I2⟩, J4, [0, 1, 2, 3], I, by decide⟩
theorem Gy (b : Network) (a : Plan) (r : Int) (h : Fo b a = some r) : ACalls Am 23 [.agg (Ab b), .agg (As a)] [] (fun x new => x = .V r ∧ new = []) := by
 refine Ag Tryz.func23 rfl rfl rfl fun C hC => ?_
 unfold Fo at h
 refine Aa fun y1 Q => nD (nG [] I (nQ (cs := Ab b) (m := 6) I I I dS fun d => nG [] I (nQ (cs := As a) (m := 3) I I I dS fun e => Af 1 I (nE ?_))))
 subst Q
 refine Aa fun y4 R => nH ?_
 obtain ⟨r5, S, h⟩ := Ac h
 refine nD (Ap 1 [.o 0 0] I J1 (Cg (If _ _ S) (Af 1 I (nE (Aq I (Ay h I ?_ ?_))))))
 intro U h
 refine Aq I (nM g0 ?_)
 obtain rfl := oi h
 exact nK pr
 intro U h
 refine nI ?_
 subst R
 refine Aa fun y8 W => Dt 43 (((a.Rates.length : Int) != (b.Segments.length : Int)) || (((a.Ports.length : Int) != (b.Ports.length : Int)) || ((a.Pumps.length : Int) != (b.Stations.length : Int)))) ?_ ?_
 refine nD (Ap 8 [.o 1 1, .l 2 (a.Rates.length : Int), .o 4 0, .l 5 (b.Segments.length : Int)] I ⟨Bh, I, Bh, I, J⟩ ?_)
 rcases bt (((a.Rates.length : Int) != (b.Segments.length : Int))) with f | f
 refine Ad 26 I f (Af 17 I (nE ?_))
 exact jf (by simp only [f, bz]) I I I2
 refine Ad 26 I f (Ap 9 [.o 1 1, .l 2 (a.Ports.length : Int), .o 4 0, .l 5 (b.Ports.length : Int)] I ⟨Bh, I, Bh, I, J⟩ ?_)
 rcases bt (((a.Ports.length : Int) != (b.Ports.length : Int))) with g | g
 refine Ad 35 I g (Af 8 I (nE ?_))
 exact jf (by simp only [f, g, bz]) I I I2
 refine Ad 35 I g (Ap 8 [.o 1 1, .l 2 (a.Pumps.length : Int), .o 4 0, .l 5 (b.Stations.length : Int)] I ⟨Bh, I, Bh, I, J⟩ (nE ?_))
 exact jf (by simp only [f, g, bz]) I I I2
 refine Ay h I ?_ ?_
 intro X h
 refine Aq I (nM g0 ?_)
 obtain rfl := oi h
 exact nK pr
 intro X h
 refine nI ?_
 subst W
 refine Al (fun s ob => ∃ (A : Unit), Fo.J1 b a A = some r ∧ s = [] ∧ ob = [.arr d 32 6 1 [Ab b], .arr e 37 3 1 [As a]]) [(2, _), (3, _)] J2 ?_ ?_
 refine Bu [.o 1 1, .l 2 (a.Rates.length : Int)] I ⟨Bh, I, J⟩ (nJ (Cz 45 I fun Y => ?_))
 obtain ⟨a7, Z, B⟩ := Ac h
 clear h
 refine C1 Z [(2, _), (3, _), (45, _), (46, _)] J4 (fun (p : Nat) (D : Unit) s ob => s = [(47, .V (p : Int))] ∧ ob = [.arr d 32 6 1 [Ab b], .arr e 37 3 1 [As a]]) ⟨I, I⟩ ⟨I, J⟩ ⟨[0, 1], I, by decide⟩ ?_ ?_
 rintro p t D a8 s ob aa E ⟨rfl, rfl⟩ h ab
 unfold Fo.B6 at h
 have ac := Di E
 refine Aq I (Aa fun a9 ad => Av (v := true) I ac (nI ?_))
 subst ad
 refine nH (nJ (Bu [.x 1 p (rI t)] I ⟨⟨I, Ah aa⟩, J⟩ (Aa fun ba ae => ?_)))
 obtain ⟨i, ⟨af, ag⟩, h⟩ := Bk h
 refine I6 [.o 1 0, .x 3 i.1 (Ar i.2)] I ⟨⟨af, Ah ag⟩, I, J⟩ ?_
 subst ae
 refine Dt 67 (decide (t < (wr (0 - (min 1000 i.2.Capacity)))) || decide (t > (min 1000 i.2.Capacity))) ?_ ?_
 refine nD (Af 5 I ?_)
 rcases bt (decide (t < (wr (0 - (min 1000 i.2.Capacity))))) with j | j
 refine Ad 63 I j (Af 4 I (nE ?_))
 exact jf (by simp only [j, bz]) I I I2
 refine Ad 63 I j (Af 4 I (nE ?_))
 exact jf (by simp only [j, bz]) I I I2
 refine Ay h I ?_ ?_
 intro ah h
 refine Aq I ?_
 obtain rfl := ab _ (oi h).symm
 replace h := B
 replace h := Do h
 refine nM g0 ?_
 obtain rfl := oi h
 exact nK pr
 intro ah h
 refine nI (nD (Ap 2 [.k 0 (p + 1 : Nat)] I ⟨Bt E Y, J⟩ ?_))
 obtain rfl := oi h
 refine nE ?_
 exact ⟨_, _, _, I, I2, J5, [0, 1], I, by decide⟩
 rintro D s ob ⟨rfl, rfl⟩ he
 subst he
 have h := Dh B
 have ai := Dj a.Rates.length
 refine Aq I (Aa fun bb bc => Av (v := false) I ai (nO ?_))
 exact lg ⟨(), h, I2⟩ [0, 1]
 rintro s ob ⟨A, h, rfl, rfl⟩
 unfold Fo.J1 at h
 refine Al (fun s ob => ∃ (F : Unit), Fo.J2 b a F = some r ∧ s = [] ∧ ob = [.arr d 32 6 1 [Ab b], .arr e 37 3 1 [As a]]) [(2, _), (3, _)] J2 ?_ ?_
 refine Bu [.o 1 1, .l 2 (a.Ports.length : Int)] I ⟨Bh, I, J⟩ (nJ (Cz 70 I fun aj => ?_))
 obtain ⟨bd, ak, G⟩ := Ac h
 clear h
 refine C1 ak [(2, _), (3, _), (70, _), (71, _)] J4 (fun (u : Nat) (H : Unit) s ob => s = [(72, .V (u : Int))] ∧ ob = [.arr d 32 6 1 [Ab b], .arr e 37 3 1 [As a]]) ⟨I, I⟩ ⟨I, J⟩ ⟨[0, 1], I, by decide⟩ ?_ ?_
 rintro u w H be s ob al K ⟨rfl, rfl⟩ h am
 unfold Fo.B5 at h
 have an := Di K
 refine Aq I (Aa fun bf ao => Av (v := true) I an (nI ?_))
 subst ao
 refine nH (nJ (Bu [.x 0 u (rI w)] I ⟨⟨I, Ah al⟩, J⟩ (Dt 81 (decide (w < (-1000)) || decide (w > 1000)) ?_ ?_)))
 refine nD (Af 3 I ?_)
 rcases bt (decide (w < (-1000))) with n | n
 refine Ad 78 I n (Af 3 I (nE ?_))
 exact jf (by simp only [n, bz]) I I I2
 refine Ad 78 I n (Af 3 I (nE ?_))
 exact jf (by simp only [n, bz]) I I I2
 refine Ay h I ?_ ?_
 intro ap h
 refine Aq I ?_
 obtain rfl := am _ (oi h).symm
 replace h := G
 replace h := Do h
 refine nM g0 ?_
 obtain rfl := oi h
 exact nK pr
 intro ap h
 refine nI (nD (Ap 2 [.k 0 (u + 1 : Nat)] I ⟨Bt K aj, J⟩ ?_))
 obtain rfl := oi h
 refine nE ?_
 exact ⟨_, _, _, I, I2, J5, [0, 1], I, by decide⟩
 rintro H s ob ⟨rfl, rfl⟩ he
 subst he
 have h := Dh G
 have aq := Dj a.Ports.length
 refine Aq I (Aa fun bg bh => Av (v := false) I aq (nO ?_))
 exact lg ⟨(), h, I2⟩ [0, 1]
 rintro s ob ⟨F, h, rfl, rfl⟩
 unfold Fo.J2 at h
 refine Al (fun s ob => ∃ (M : Unit), Fo.J3 b a M = some r ∧ s = [] ∧ ob = [.arr d 32 6 1 [Ab b], .arr e 37 3 1 [As a]]) [(2, _), (3, _)] J2 ?_ ?_
 refine Bu [.o 1 0, .l 2 (b.Nodes.length : Int)] I ⟨Bh, I, J⟩ (nJ (Cz 84 I fun ar => ?_))
 obtain ⟨bi, au, N⟩ := Ac h
 clear h
 refine C1 au [(2, _), (3, _), (85, _)] J3 (fun (y : Nat) (O : Unit) s ob => s = [(86, .V (y : Int))] ∧ ob = [.arr d 32 6 1 [Ab b], .arr e 37 3 1 [As a]]) ⟨I, I⟩ ⟨I, J⟩ ⟨[0, 1], I, by decide⟩ ?_ ?_
 rintro y bj O bk s ob bl P ⟨rfl, rfl⟩ h av
 unfold Fo.B4 at h
 have aw := Di P
 refine Aq I (Aa fun bm ax => Av (v := true) I aw (nI ?_))
 subst ax
 refine nH (nJ (Aq I (nH ?_)))
 obtain ⟨bn, ay, h⟩ := Ac h
 refine nD (Ap 3 [.o 0 0, .o 1 1] I J2 (Cg (Tl _ _ _ _ ay) (Af 5 I (nE (Aq I (Ay h I ?_ ?_))))))
 intro az h
 refine Aq I ?_
 obtain rfl := av _ (oi h).symm
 replace h := N
 replace h := Do h
 refine nM g0 ?_
 obtain rfl := oi h
 exact nK pr
 intro az h
 refine nI (nD (Ap 2 [.k 0 (y + 1 : Nat)] I ⟨Bt P ar, J⟩ ?_))
 obtain rfl := oi h
 refine nE ?_
 exact ⟨_, _, _, I, I2, J4, [0, 1], I, by decide⟩
 rintro O s ob ⟨rfl, rfl⟩ he
 subst he
 have h := Dh N
 have a0 := Dj b.Nodes.length
 refine Aq I (Aa fun bo bp => Av (v := false) I a0 (nO ?_))
 exact lg ⟨(), h, I2⟩ [0, 1]
 rintro s ob ⟨M, h, rfl, rfl⟩
 unfold Fo.J3 at h
 refine nH (nH ?_)
 obtain ⟨bq, a1, h⟩ := Ac h
 refine Bw (.still 0 (.still 1 (sl 3 4 (.act 2 (.act 3 (.still 7 .nil)))))) [0, 1] [_, _] I (By 5 [.o 0 0, .o 1 1, .o 3 0, .l 4 (b.Nodes.length : Int)] I ⟨Bh, I, I, I, J⟩ (nF [] I I I (Bp I I I (dG _ _ _ a1) dS ?_)))
 rintro _ _ ⟨br, rfl, rfl⟩
 refine nF [] I I I (Cd (Cn 2 I I I I) dS (Bm 1 I (Ak (nE (Ay h I ?_ ?_)))))
 intro a2 h
 refine Aq I (nM g0 ?_)
 obtain rfl := oi h
 exact nK pr
 intro a2 h
 refine nI (Aq I (nM g0 ?_))
 obtain rfl := oi h
 exact nK pr
end Go.Proofs.YtmaamhgjeampmaaGreat
