/- Walks that show what functions of the program compute; printed by a program of ours. No condition. -/
import Derived.Test.YtmaamhgjeampmaaGreatYtL1
set_option maxRecDepth 100000
namespace Go.Proofs.YtmaamhgjeampmaaGreat
open Go.Aw
set_option linter.unusedVariables false
set_option linter.unusedSimpArgs false
set_option maxHeartbeats 4000000
theorem Tj (a : Int) (r : Int) (h : Qc a = r) : ACalls Am 158 [.v (.int .u8 a)] [] (fun x new => x = .V r ∧ new = []) := by
 refine Ag Tryz.func158 rfl rfl rfl fun C hC => ?_
 unfold Qc at h
 refine Aq I (nH (nJ (Al (fun s ob => ∃ (e : Unit), Qc.J1 e = r ∧ s = [] ∧ ob = []) [] J ?_ ?_)))
 refine nJ (nJ (nH (nJ (nH (Aa fun k f => Dt 3 (decide (a ≥ 97) && decide (a ≤ 122)) ?_ ?_)))))
 refine nD (Af 1 I (Ck (nY (c := decide (a ≥ 97)) I I I) I (Af 1 I ?_)))
 rcases bt (decide (a ≥ 97)) with b | b
 refine Ad 6 I b (Af 1 I (Br I I I (Ck (nY (c := decide (a ≤ 122)) I I I) I (Af 2 I (nE ?_)))))
 exact jf (by simp only [b, bz]) I I I2
 refine Ad 6 I b (Af 4 I (nE ?_))
 exact jf (by simp only [b, bz]) I I I2
 refine Ay h I ?_ ?_
 intro g h
 refine nO (nH (Aq I ?_))
 obtain rfl := h
 exact nK pr
 intro g h
 refine nI ?_
 subst f
 refine nH (Dt 10 (decide (a ≥ 48) && decide (a ≤ 57)) ?_ ?_)
 refine nD (Af 1 I (Ck (nY (c := decide (a ≥ 48)) I I I) I (Af 1 I ?_)))
 rcases bt (decide (a ≥ 48)) with d | d
 refine Ad 13 I d (Af 1 I (Br I I I (Ck (nY (c := decide (a ≤ 57)) I I I) I (Af 2 I (nE ?_)))))
 exact jf (by simp only [d, bz]) I I I2
 refine Ad 13 I d (Af 4 I (nE ?_))
 exact jf (by simp only [d, bz]) I I I2
 refine Ay h I ?_ ?_
 intro i h
 refine nO ?_
 exact lg ⟨(), h, I2⟩ []
 intro i h
 refine nI (nH (nD (Af 1 I (Ck (nY (c := (a == 45)) I I I) I (Af 1 I (nE (Ay h I ?_ ?_)))))))
 intro j h
 refine nO ?_
 exact lg ⟨(), h, I2⟩ []
 intro j h
 refine nI (nO (Aq I ?_))
 obtain rfl := h
 exact nK pr
 rintro s ob ⟨e, h, rfl, rfl⟩
 unfold Qc.J1 at h
 refine nH (Aq I ?_)
 obtain rfl := h
 exact nK pr
theorem cU (a : ByteArray) (r : Bool) (h : Qf a = some r) : ACalls Am 137 [.v (.string a)] [] (fun x new => x = .v (.bool r) ∧ new = []) := by
 refine Ag Tryz.func137 rfl rfl rfl fun C hC => ?_
 unfold Qf at h
 refine Aq I (Aa fun S o => Al (fun s ob => ∃ (f : Bool), Qf.J1 a f = some r ∧ s = [(17, .v (.bool f))] ∧ ob = []) [(0, _)] J1 ?_ ?_)
 refine nD (Af 4 I ?_)
 rcases bt (decide ((a.size : Int) < 1)) with b | b
 replace h := B0 b h
 refine Ad 7 I b (Af 10 I (nE ?_))
 exact lg ⟨true, h, I2⟩ []
 replace h := Ca b h
 refine Ad 7 I b ?_
 rcases bt (decide ((a.size : Int) > 12)) with d | d
 replace h := B0 d h
 refine Af 5 I (Ad 12 I d (Af 5 I (nE ?_)))
 exact lg ⟨true, h, I2⟩ []
 replace h := Ca d h
 obtain ⟨g, t, h⟩ := Ac h
 obtain ⟨u, w, y⟩ := L0 t
 refine Af 5 I (Ad 12 I d (Af 1 I (Br I I I (Ck (C9 (m := g.1) I I I I u w y) I (Br I I I (Cg (Tj g.2 _ I) (Af 2 I (nE ?_))))))))
 exact lg ⟨((Qc g.2) != 1), h, I2⟩ []
 rintro s ob ⟨f, h, rfl, rfl⟩
 unfold Qf.J1 at h
 refine Ay h I ?_ ?_
 intro A h
 refine Aq I ?_
 obtain rfl := oi h
 exact nK pr
 intro A h
 refine nI ?_
 subst o
 refine Al (fun s ob => ∃ (i : Unit), Qf.J2 i = some r ∧ s = [] ∧ ob = []) [] J ?_ ?_
 refine Aq I (nJ ?_)
 obtain ⟨U, B, h⟩ := Ac h
 have D : (a.size : Int).toNat ≤ 9223372036854775806 := by have := fU B; omega
 obtain ⟨W, E, j⟩ := Ac h
 clear h
 refine Ga E [(0, _), (19, _)] J2 (fun (e : Nat) (l : Unit) s ob => s = [(20, .V (e : Int))] ∧ ob = []) ⟨I, I⟩ ⟨I, J⟩ ⟨[], I, by decide⟩ ?_ ?_
 rintro e l X s ob F ⟨rfl, rfl⟩ h G
 unfold Qf.B3 at h
 have H : decide ((e : Int) < (a.size : Int)) = true := decide_eq_true (by omega)
 refine Aq I (Aa fun Y K => Av (v := true) I H (nI ?_))
 subst K
 refine nH (nJ (Aq I (nH ?_)))
 obtain ⟨n, M, h⟩ := Ac h
 obtain ⟨N, O, P⟩ := L0 M
 refine nD (Af 2 I (Ck (C9 (m := n.1) I I I I N O P) I (Cg (Tj n.2 _ I) (Af 1 I (nE (Ay h I ?_ ?_))))))
 intro Q h
 refine Aq I ?_
 obtain rfl := G _ (oi h).symm
 replace h := j
 replace h := Do h
 obtain rfl := oi h
 exact nK pr
 intro Q h
 refine nI (nD (Ap 2 [.k 0 (e + 1 : Nat)] I ⟨Bt F D, J⟩ ?_))
 obtain rfl := oi h
 refine nE ?_
 exact ⟨_, _, _, I, I2, J3, [], I, by decide⟩
 rintro l s ob ⟨rfl, rfl⟩ he
 subst he
 have h := Dh j
 have R : decide ((((a.size : Int).toNat : Nat) : Int) < (a.size : Int)) = false := decide_eq_false (by omega)
 refine Aq I (Aa fun Z aa => Av (v := false) I R (nO ?_))
 exact lg ⟨(), h, I2⟩ []
 rintro s ob ⟨i, h, rfl, rfl⟩
 unfold Qf.J2 at h
 refine Aq I ?_
 obtain rfl := oi h
 exact nK pr
theorem Tv (a : Network) (r : Arr (List ByteArray) 4) (h : Nu a = some r) : ACalls Am 134 [.agg (Ab a)] [] (fun x new => x = .agg (r.l.map (cL 1 rS)) ∧ new = []) := by
 refine Ag Tryz.func134 rfl rfl rfl fun C hC => ?_
 unfold Nu at h
 refine Aa fun y1 U => nD (nG [] I (nQ (cs := Ab a) (m := 6) I I I dS fun u => nG [] I (nN (cs := [.N, .N, .N, .N]) (m := 4) I I I I I dS fun f => nE ?_)))
 subst U
 refine Aa fun y4 W => nD (nG [] I (nN (cs := [.N, .N, .N, .N]) (m := 4) I I I I I dS fun g => nE ?_))
 subst W
 refine Aa fun y6 X => nD (Ap 2 [.o 1 0] I J1 (Ck (D0 (m := 0) I I I I I I (Bs I)) I (nG [2] I (Ax 2 0 0 [[.list 1 (a.Nodes.map rS), .N, .N, .N]] I (nE ?_)))))
 subst X
 refine Al (fun s ob => ∃ (c : List ByteArray) (b : Value), Nu.J1 a c = some r ∧ s = [] ∧ ob = [.arr u 32 6 1 [Ab a], .arr f 158 4 1 [[.N, .N, .N, .N]], .arr g 158 4 1 [[.list 1 (a.Nodes.map rS), .v b, .N, .N]], .us b 9 1 (c.map rS)]) [(1, _), (2, _), (3, _)] J3 ?_ ?_
 refine Bu [.o 1 0, .l 2 (a.Segments.length : Int)] I ⟨Bh, I, J⟩ (nJ (Cz 14 I fun Y => nM (Bo 9 1) ?_))
 obtain ⟨a5, Z, aa⟩ := Ac h
 clear h
 refine Dl Z [(1, _), (2, _), (3, _), (14, _), (15, _)] J5 (fun (w : Nat) (y : List ByteArray) s ob => ∃ (j : Value), s = [(16, .V (w : Int))] ∧ ob = [.arr u 32 6 1 [Ab a], .arr f 158 4 1 [[.N, .N, .N, .N]], .arr g 158 4 1 [[.list 1 (a.Nodes.map rS), .v j, .N, .N]], .us j 9 1 (y.map rS)]) ⟨(.slice none 0 0), I2⟩ ⟨I, J⟩ ⟨[0, 1, 2, 3], I, by decide⟩ ?_ ?_
 rintro w F y a6 s ob ab M ⟨j, rfl, rfl⟩ h
 unfold Nu.B6 at h
 have ac := Di M
 refine Aq I (Aa fun a7 ad => Av (v := true) I ac (nI ?_))
 subst ad
 refine nH (nJ (nH (nD (Ap 2 [.x 0 w (Ar F)] I ⟨⟨I, Ah ab⟩, J⟩ (nG [] I (nN (cs := [.v (.string ⟨#[]⟩), .V 0, .V 0, .V 0, .V 0, .V 0, .N]) (m := 7) I I I I I dS fun a8 => nG [4] I (Ax 4 0 0 [Ar F] I (nE ?_))))))))
 obtain ⟨a9, ae, h⟩ := Ac h
 refine nD (Ck (D0 (m := 1) I I I I I I (Bs I)) I (Ap 3 [.o 0 2, .o 2 4] I J2 (nG [] I (nR 1 (([F.Name] : List ByteArray).map rS) (nG [3] I (Bf 3 I ae fun O => Ck (D0 (m := 1) I I I I I I (Bs I)) I (nZ 3 I fun af => nG [2] I (nU 2 0 1 (es' := [[.list 1 (a.Nodes.map rS), .v O, .N, .N]]) I I I I I I (Ai af) I (Bs I) I I (nE (nD (Ap 2 [.k 0 (w + 1 : Nat)] I ⟨Bt M Y, J⟩ ?_)))))))))))
 obtain rfl := oi h
 refine nE ?_
 exact lg ⟨O, I2⟩ [0, 1, 2, 3]
 rintro y s ob ⟨j, rfl, rfl⟩ he
 subst he
 have h := aa
 have ag := Dj a.Segments.length
 refine Aq I (Aa fun ba bb => Av (v := false) I ag (nO ?_))
 exact lg ⟨y, j, h, I2⟩ [0, 1, 2, 3]
 rintro s ob ⟨c, b, h, rfl, rfl⟩
 unfold Nu.J1 at h
 refine Al (fun s ob => ∃ (e : List ByteArray) (d : Value), Nu.J2 a c e = some r ∧ s = [] ∧ ob = [.arr u 32 6 1 [Ab a], .arr f 158 4 1 [[.N, .N, .N, .N]], .arr g 158 4 1 [[.list 1 (a.Nodes.map rS), .v b, .v d, .N]], .us b 9 1 (c.map rS), .us d 9 1 (e.map rS)]) [(1, _), (2, _), (3, _)] J3 ?_ ?_
 refine Bu [.o 1 0, .l 2 (a.Ports.length : Int)] I ⟨Bh, I, J⟩ (nJ (Cz 29 I fun ah => nM (Bo 9 1) ?_))
 obtain ⟨bc, ai, aj⟩ := Ac h
 clear h
 refine Dl ai [(1, _), (2, _), (3, _), (29, _), (30, _)] J5 (fun (A : Nat) (B : List ByteArray) s ob => ∃ (n : Value), s = [(31, .V (A : Int))] ∧ ob = [.arr u 32 6 1 [Ab a], .arr f 158 4 1 [[.N, .N, .N, .N]], .arr g 158 4 1 [[.list 1 (a.Nodes.map rS), .v b, .v n, .N]], .us b 9 1 (c.map rS), .us n 9 1 (B.map rS)]) ⟨(.slice none 0 0), I2⟩ ⟨I, J⟩ ⟨[0, 1, 2, 3, 4], I, by decide⟩ ?_ ?_
 rintro A G B bd s ob ak P ⟨n, rfl, rfl⟩ h
 unfold Nu.B5 at h
 have al := Di P
 refine Aq I (Aa fun be am => Av (v := true) I al (nI ?_))
 subst am
 refine nH (nJ (nH (nD (Ap 2 [.x 0 A (Bj G)] I ⟨⟨I, Ah ak⟩, J⟩ (nG [] I (nN (cs := [.v (.string ⟨#[]⟩), .V 0, .V 0]) (m := 3) I I I I I dS fun bf => nG [5] I (Ax 5 0 0 [Bj G] I (nE ?_))))))))
 obtain ⟨bg, an, h⟩ := Ac h
 refine nD (Ck (D0 (m := 2) I I I I I I (Bs I)) I (Ap 3 [.o 0 2, .o 2 5] I J2 (nG [] I (nR 1 (([G.Name] : List ByteArray).map rS) (nG [4] I (Bf 4 I an fun Q => Ck (D0 (m := 2) I I I I I I (Bs I)) I (nZ 4 I fun ao => nG [2] I (nU 2 0 2 (es' := [[.list 1 (a.Nodes.map rS), .v b, .v Q, .N]]) I I I I I I (Ai ao) I (Bs I) I I (nE (nD (Ap 2 [.k 0 (A + 1 : Nat)] I ⟨Bt P ah, J⟩ ?_)))))))))))
 obtain rfl := oi h
 refine nE ?_
 exact lg ⟨Q, I2⟩ [0, 1, 2, 3, 4]
 rintro B s ob ⟨n, rfl, rfl⟩ he
 subst he
 have h := aj
 have aq := Dj a.Ports.length
 refine Aq I (Aa fun bh bi => Av (v := false) I aq (nO ?_))
 exact lg ⟨B, n, h, I2⟩ [0, 1, 2, 3, 4]
 rintro s ob ⟨e, d, h, rfl, rfl⟩
 unfold Nu.J2 at h
 refine Al (fun s ob => ∃ (q : List ByteArray) (i : Value), Nu.J3 a c e q = some r ∧ s = [] ∧ ob = [.arr f 158 4 1 [[.N, .N, .N, .N]], .arr g 158 4 1 [[.list 1 (a.Nodes.map rS), .v b, .v d, .v i]], .us b 9 1 (c.map rS), .us d 9 1 (e.map rS), .us i 9 1 (q.map rS)]) [(2, _), (3, _)] J2 ?_ ?_
 refine Bu [.o 1 0, .l 2 (a.Stations.length : Int)] I ⟨Bh, I, J⟩ (nJ (Cz 44 I fun ar => nM (Bo 9 1) ?_))
 obtain ⟨bj, au, av⟩ := Ac h
 clear h
 refine Dl au [(2, _), (3, _), (44, _), (45, _)] J4 (fun (D : Nat) (E : List ByteArray) s ob => ∃ (t : Value), s = [(46, .V (D : Int))] ∧ ob = [.arr f 158 4 1 [[.N, .N, .N, .N]], .arr g 158 4 1 [[.list 1 (a.Nodes.map rS), .v b, .v d, .v t]], .us b 9 1 (c.map rS), .us d 9 1 (e.map rS), .us t 9 1 (E.map rS)]) ⟨(.slice none 0 0), I2⟩ ⟨I, J⟩ ⟨[1, 2, 3, 4, 5], I, by decide⟩ ?_ ?_
 rintro D H E bk s ob aw R ⟨t, rfl, rfl⟩ h
 unfold Nu.B4 at h
 have ax := Di R
 refine Aq I (Aa fun bl ay => Av (v := true) I ax (nI ?_))
 subst ay
 refine nH (nJ (nH (nD (Ap 2 [.x 0 D (A4 H)] I ⟨⟨I, Ah aw⟩, J⟩ (nG [] I (nN (cs := [.v (.string ⟨#[]⟩), .V 0, .V 0, .V 0, .V 0]) (m := 5) I I I I I dS fun bm => nG [5] I (Ax 5 0 0 [A4 H] I (nE ?_))))))))
 obtain ⟨bn, az, h⟩ := Ac h
 refine nD (Ck (D0 (m := 3) I I I I I I (Bs I)) I (Ap 3 [.o 0 1, .o 2 5] I J2 (nG [] I (nR 1 (([H.Name] : List ByteArray).map rS) (nG [4] I (Bf 4 I az fun S => Ck (D0 (m := 3) I I I I I I (Bs I)) I (nZ 4 I fun a0 => nG [1] I (nU 1 0 3 (es' := [[.list 1 (a.Nodes.map rS), .v b, .v d, .v S]]) I I I I I I (Ai a0) I (Bs I) I I (nE (nD (Ap 2 [.k 0 (D + 1 : Nat)] I ⟨Bt R ar, J⟩ ?_)))))))))))
 obtain rfl := oi h
 refine nE ?_
 exact lg ⟨S, I2⟩ [0, 1, 2, 3, 4]
 rintro E s ob ⟨t, rfl, rfl⟩ he
 subst he
 have h := av
 have a1 := Dj a.Stations.length
 refine Aq I (Aa fun bo bp => Av (v := false) I a1 (nO ?_))
 exact lg ⟨E, t, h, I2⟩ [0, 1, 2, 3, 4]
 rintro s ob ⟨q, i, h, rfl, rfl⟩
 unfold Nu.J3 at h
 refine nH (nD (Ap 1 [.o 0 1] I J1 (nG [0] I (Ax 0 0 0 [[.list 1 (a.Nodes.map rS), .v b, .v d, .v i]] I (nE (nM (A0 [2, 3, 4] (K := [.us b 9 1 (c.map rS), .us d 9 1 (e.map rS), .us i 9 1 (q.map rS)]) I [] J (ob' := [.arr f 158 4 1 [[.list 1 (a.Nodes.map rS), .list 1 (c.map rS), .list 1 (e.map rS), .list 1 (q.map rS)]], .arr g 158 4 1 [[.list 1 (a.Nodes.map rS), .v b, .v d, .v i]]]) (.cons (.arr (.cons (.refl _) (.cons (.us 0 I) (.cons (.us 1 I) (.cons (.us 2 I) (.rest _)))))) (.rest _))) (Cb [0] I ?_)))))))
 obtain rfl := oi h
 exact nK ⟨.inr I, [_], [], ⟨⟨0, _, _, _, _, _, _, _, I5⟩, J⟩, Cf, I2⟩
theorem aV (a : Station) (b : Station) (r : Bool) (h : K1 a b = r) : ACalls Am 161 [.agg (A4 a), .eptr (A4 b)] [] (fun x new => x = .v (.bool r) ∧ new = []) := by
 refine Ag Tryz.func161 rfl rfl rfl fun C hC => ?_
 unfold K1 at h
 refine nH (nD (nG [] I (nQ (cs := A4 a) (m := 5) I I I dS fun c => Af 1 I (nE (Bu [.o 1 0] I J1 (nM g0 ?_))))))
 obtain rfl := h
 exact nK pr
theorem aG (a : Network) (r : Bool) (h : T6 a = some r) : ACalls Am 138 [.agg (Ab a)] [] (fun x new => x = .v (.bool r) ∧ new = []) := by
 refine Ag Tryz.func138 rfl rfl rfl fun C hC => ?_
 unfold T6 at h
 refine Aa fun y1 G => nD (nG [] I (nQ (cs := Ab a) (m := 6) I I I dS fun b => Af 1 I (nE ?_)))
 subst G
 refine Al (fun s ob => ∃ (j : Unit), T6.J1 a j = some r ∧ s = [] ∧ ob = [.arr b 32 6 1 [Ab a]]) [(1, _)] J1 ?_ ?_
 refine Aa fun aw H => ?_
 obtain ⟨ax, K, h⟩ := Ac h
 refine nD (Ap 1 [.o 0 0] I J1 (nG [] I (Bp I I I (Tv _ _ K) dS ?_)))
 rintro _ _ ⟨rfl, rfl⟩
 refine Af 1 I (nE ?_)
 subst H
 refine nJ ?_
 have M : (4 : Nat) ≤ 9223372036854775806 := by decide
 obtain ⟨ay, N, n⟩ := Ac h
 clear h
 refine Ga N [(1, _), (10, _)] J2 (fun (e : Nat) (t : Unit) s ob => s = [(11, .V (e : Int))] ∧ ob = [.arr b 32 6 1 [Ab a]]) ⟨I, I⟩ ⟨I, J⟩ ⟨[0], I, by decide⟩ ?_ ?_
 rintro e t O s ob P ⟨rfl, rfl⟩ h Q
 unfold T6.B4 at h
 have R : decide ((e : Int) < 4) = true := decide_eq_true (by omega)
 refine Aq I (Aa fun az S => Av (v := true) I R (nI ?_))
 subst S
 refine Al (fun s ob => ∃ (u : Unit), T6.J5 u = some O ∧ s = [] ∧ ob = [.arr b 32 6 1 [Ab a]]) [(1, _), (10, _), (11, _)] J3 ?_ ?_
 refine nJ (Aa fun a0 U => ?_)
 obtain ⟨i, ⟨W, X⟩, h⟩ := Bk h
 refine nD (Ck (Ge (m := i.1) I I I I I I I W X (hlen := Arr.h _)) I (Af 1 I (nE ?_)))
 subst U
 refine Bu [.l 1 (i.2.length : Int)] I ⟨Bh, J⟩ (nJ (Cz 14 I fun Y => ?_))
 obtain ⟨a1, Z, w⟩ := Ac h
 clear h
 refine C1 Z [(1, _), (4, _), (10, _), (11, _), (14, _), (15, _)] J6 (fun (f : Nat) (y : Unit) s ob => s = [(16, .V (f : Int))] ∧ ob = [.arr b 32 6 1 [Ab a]]) ⟨I, I⟩ ⟨I, J⟩ ⟨[0], I, by decide⟩ ?_ ?_
 rintro f aa y a2 s ob ab A ⟨rfl, rfl⟩ h ac
 unfold T6.B6 at h
 have ad := Di A
 refine Aq I (Aa fun a3 ae => Av (v := true) I ad (nI ?_))
 subst ae
 refine nH (nJ (Bu [.x 1 f (rS aa)] I ⟨⟨I, Ah ab⟩, J⟩ (nH ?_)))
 obtain ⟨a4, af, h⟩ := Ac h
 refine nD (Af 2 I (Cg (aW _ _ _ af) (Af 2 I (nE (Ay h I ?_ ?_)))))
 intro ag h
 refine Aq I ?_
 obtain rfl := ac _ (oi h).symm
 replace h := w
 replace h := Do h
 obtain rfl := Q _ (oi h).symm
 replace h := n
 replace h := Do h
 refine nM g0 ?_
 obtain rfl := oi h
 exact nK pr
 intro ag h
 refine nI (nD (Ap 2 [.k 0 (f + 1 : Nat)] I ⟨Bt A Y, J⟩ ?_))
 obtain rfl := oi h
 refine nE ?_
 exact ⟨_, _, _, I, I2, J7, [0], I, by decide⟩
 rintro y s ob ⟨rfl, rfl⟩ he
 subst he
 have h := Dh w
 have ah := Dj i.2.length
 refine Aq I (Aa fun a5 a6 => Av (v := false) I ah (nO ?_))
 exact lg ⟨(), h, I2⟩ [0]
 rintro s ob ⟨u, h, rfl, rfl⟩
 unfold T6.J5 at h
 refine nD (Ap 2 [.k 0 (e + 1 : Nat)] I ⟨Bt P M, J⟩ ?_)
 obtain rfl := oi h
 refine nE ?_
 exact ⟨_, _, _, I, I2, J3, [0], I, by decide⟩
 rintro t s ob ⟨rfl, rfl⟩ he
 subst he
 have h := Dh n
 have ai : decide (((4 : Nat) : Int) < 4) = false := by simp
 refine Aq I (Aa fun a7 a8 => Av (v := false) I ai (nO ?_))
 exact lg ⟨(), h, I2⟩ [0]
 rintro s ob ⟨j, h, rfl, rfl⟩
 unfold T6.J1 at h
 refine Al (fun s ob => ∃ (B : Unit), T6.J2 B = some r ∧ s = [] ∧ ob = []) [] J ?_ ?_
 refine Bu [.o 1 0, .l 2 (a.Stations.length : Int)] I ⟨Bh, I, J⟩ (nJ (Cz 29 I fun aj => ?_))
 obtain ⟨a9, ak, D⟩ := Ac h
 clear h
 refine C1 ak [(1, _), (29, _), (30, _)] J3 (fun (g : Nat) (E : Unit) s ob => s = [(31, .V (g : Int))] ∧ ob = [.arr b 32 6 1 [Ab a]]) ⟨I, I⟩ ⟨I, J⟩ ⟨[0], I, by decide⟩ ?_ ?_
 rintro g d E ba s ob al F ⟨rfl, rfl⟩ h am
 unfold T6.B3 at h
 have an := Di F
 refine Aq I (Aa fun bb ao => Av (v := true) I an (nI ?_))
 subst ao
 refine nH (nJ (Aa fun bc ap => nD (Ap 3 [.x 1 g (A4 d)] I ⟨⟨I, Ah al⟩, J⟩ (nG [] I (nN (cs := [.v (.string ⟨#[]⟩), .V 0, .V 0, .V 0, .V 0]) (m := 5) I I I I I dS fun bd => Af 1 I (nG [1] I (Ax 1 0 0 [A4 d] I (nE ?_))))))))
 subst ap
 refine nH ?_
 obtain ⟨be, aq, h⟩ := Ac h
 refine nD (Ap 2 [.o 1 0] I J1 (Ck (Yp.makeFunc I I) I (nG [] I (Dq I (.refl _) I I (.cons (.refl _) (.cons (.fn (.rest _) (.cons (.box 1 I (.rest _)) (.rest _))) (.rest _))) I (Sx _ (.fn 161 [] [.eptr (A4 d)]) I (fun x => some (K1 x d)) (fun x r h => by obtain I := oi h; exact aV x d _ I) _ aq) dS (by rintro _ _ ⟨rfl, _⟩; rfl) ?_))))
 rintro _ ⟨_, rfl, -⟩
 refine Af 2 I (nE (Ay h I ?_ ?_))
 intro ar h
 refine Aq I ?_
 obtain rfl := am _ (oi h).symm
 replace h := D
 replace h := Do h
 refine nM g0 ?_
 obtain rfl := oi h
 exact nK pr
 intro ar h
 refine nI (nD (Ap 2 [.k 0 (g + 1 : Nat)] I ⟨Bt F aj, J⟩ ?_))
 obtain rfl := oi h
 refine nE ?_
 exact ⟨_, _, _, I, I2, J4, [0], I, by decide⟩
 rintro E s ob ⟨rfl, rfl⟩ he
 subst he
 have h := Dh D
 have au := Dj a.Stations.length
 refine Aq I (Aa fun bf bg => Av (v := false) I au (nO ?_))
 exact lg ⟨(), h, I2⟩ []
 rintro s ob ⟨B, h, rfl, rfl⟩
 unfold T6.J2 at h
 refine Aq I ?_
 obtain rfl := oi h
 exact nK pr
theorem aH (a : Int) (c : Network) (r : Bool) (h : Mr a c = r) : ACalls Am 162 [.V a, .eptr (Ab c)] [] (fun x new => x = .v (.bool r) ∧ new = []) := by
 refine Ag Tryz.func162 rfl rfl rfl fun C hC => ?_
 unfold Mr at h
 refine Aq I (Al (fun s ob => s = [(3, .v (.bool (decide (a < 0) || decide (a ≥ (c.Nodes.length : Int)))))] ∧ ob = []) [] J ?_ ?_)
 refine nD (Af 3 I ?_)
 rcases bt (decide (a < 0)) with b | b
 refine Ad 6 I b (Af 7 I (nE ?_))
 exact lf I2 ⟨(Dz (by simp only [b, bz])), J⟩ [] I
 refine Ad 6 I b (Ap 7 [.l 3 (c.Nodes.length : Int)] I ⟨Bh, J⟩ (nE ?_))
 exact lf I2 ⟨(Dz (by simp only [b, bz])), J⟩ [] I
 rintro s ob ⟨rfl, rfl⟩
 obtain rfl := h
 exact nK pr
theorem cW (a : Network) (r : Bool) (h : Ue a = some r) : ACalls Am 139 [.agg (Ab a)] [] (fun x new => x = .v (.bool r) ∧ new = []) := by
 refine Ag Tryz.func139 rfl rfl rfl fun C hC => ?_
 unfold Ue at h
 refine Aa fun y1 O => nD (nG [] I (nQ (cs := Ab a) (m := 6) I I I dS fun b => Af 1 I (nE ?_)))
 subst O
 refine Aq I (Al (fun s ob => ∃ (A : List Int) (f : Value), Ue.J1 a A = some r ∧ s = [(3, .v f)] ∧ ob = [.arr b 32 6 1 [Ab a], .us f 3 1 (A.map rI)]) [(1, _)] J1 ?_ ?_)
 refine Bu [.o 1 0, .l 2 (a.Segments.length : Int)] I ⟨Bh, I, J⟩ (nJ (Cz 11 I fun P => nM (Bo 3 1) ?_))
 obtain ⟨ax, Q, R⟩ := Ac h
 clear h
 refine Dl Q [(1, _), (11, _), (12, _)] J3 (fun (g : Nat) (i : List Int) s ob => ∃ (c : Value), s = [(13, .V (g : Int)), (3, .v c)] ∧ ob = [.arr b 32 6 1 [Ab a], .us c 3 1 (i.map rI)]) ⟨(.slice none 0 0), I2⟩ ⟨I, I, J⟩ ⟨[0, 1], I, by decide⟩ ?_ ?_
 rintro g j i ay s ob S H ⟨c, rfl, rfl⟩ h
 unfold Ue.B6 at h
 have U := Di H
 refine Aq I (Aa fun az W => Av (v := true) I U (nI ?_))
 subst W
 refine nH (nJ (nH (nD (Ap 2 [.x 0 g (Ar j)] I ⟨⟨I, Ah S⟩, J⟩ (nG [] I (nN (cs := [.v (.string ⟨#[]⟩), .V 0, .V 0, .V 0, .V 0, .V 0, .N]) (m := 7) I I I I I dS fun a0 => nG [2] I (Ax 2 0 0 [Ar j] I (nE ?_))))))))
 obtain ⟨a1, X, h⟩ := Ac h
 refine nD (Ap 5 [.o 2 2, .o 4 2] I J2 (nG [] I (nR 1 (([j.From, j.To] : List Int).map rI) (nG [1] I (Bf 1 I X fun Y => Af 1 I (nE (nD (Ap 2 [.k 0 (g + 1 : Nat)] I ⟨Bt H P, J⟩ ?_))))))))
 obtain rfl := oi h
 refine nE ?_
 exact lg ⟨Y, I2⟩ [0, 1]
 rintro i s ob ⟨c, rfl, rfl⟩ he
 subst he
 have h := R
 have Z := Dj a.Segments.length
 refine Aq I (Aa fun a2 a3 => Av (v := false) I Z (nO ?_))
 exact lg ⟨i, c, h, I2⟩ [0, 1]
 rintro s ob ⟨A, f, h, rfl, rfl⟩
 unfold Ue.J1 at h
 refine Al (fun s ob => ∃ (B : List Int) (n : Value), Ue.J2 a B = some r ∧ s = [(3, .v n)] ∧ ob = [.arr b 32 6 1 [Ab a], .us n 3 1 (B.map rI)]) [(1, _)] J1 ?_ ?_
 refine Bu [.o 1 0, .l 2 (a.Ports.length : Int)] I ⟨Bh, I, J⟩ (nJ (Cz 26 I fun aa => ?_))
 obtain ⟨a4, ab, ac⟩ := Ac h
 clear h
 refine Dl ab [(1, _), (26, _), (27, _)] J3 (fun (t : Nat) (u : List Int) s ob => ∃ (d : Value), s = [(28, .V (t : Int)), (3, .v d)] ∧ ob = [.arr b 32 6 1 [Ab a], .us d 3 1 (u.map rI)]) ⟨f, I2⟩ ⟨I, I, J⟩ ⟨[0, 1], I, by decide⟩ ?_ ?_
 rintro t D u a5 s ob ad K ⟨d, rfl, rfl⟩ h
 unfold Ue.B5 at h
 have ae := Di K
 refine Aq I (Aa fun a6 af => Av (v := true) I ae (nI ?_))
 subst af
 refine nH (nJ (nH (nD (Ap 2 [.x 0 t (Bj D)] I ⟨⟨I, Ah ad⟩, J⟩ (nG [] I (nN (cs := [.v (.string ⟨#[]⟩), .V 0, .V 0]) (m := 3) I I I I I dS fun a7 => nG [2] I (Ax 2 0 0 [Bj D] I (nE ?_))))))))
 obtain ⟨a8, ag, h⟩ := Ac h
 refine nD (Ap 3 [.o 2 2] I J1 (nG [] I (nR 1 (([D.Node] : List Int).map rI) (nG [1] I (Bf 1 I ag fun ah => Af 1 I (nE (nD (Ap 2 [.k 0 (t + 1 : Nat)] I ⟨Bt K aa, J⟩ ?_))))))))
 obtain rfl := oi h
 refine nE ?_
 exact lg ⟨ah, I2⟩ [0, 1]
 rintro u s ob ⟨d, rfl, rfl⟩ he
 subst he
 have h := ac
 have ai := Dj a.Ports.length
 refine Aq I (Aa fun a9 ba => Av (v := false) I ai (nO ?_))
 exact lg ⟨u, d, h, I2⟩ [0, 1]
 rintro s ob ⟨B, n, h, rfl, rfl⟩
 unfold Ue.J2 at h
 refine Al (fun s ob => ∃ (E : List Int) (F : Value), Ue.J3 a E = some r ∧ s = [(3, .v F)] ∧ ob = [.arr b 32 6 1 [Ab a], .us F 3 1 (E.map rI)]) [(1, _)] J1 ?_ ?_
 refine Bu [.o 1 0, .l 2 (a.Stations.length : Int)] I ⟨Bh, I, J⟩ (nJ (Cz 39 I fun aj => ?_))
 obtain ⟨bb, ak, al⟩ := Ac h
 clear h
 refine Dl ak [(1, _), (39, _), (40, _)] J3 (fun (w : Nat) (y : List Int) s ob => ∃ (e : Value), s = [(41, .V (w : Int)), (3, .v e)] ∧ ob = [.arr b 32 6 1 [Ab a], .us e 3 1 (y.map rI)]) ⟨n, I2⟩ ⟨I, I, J⟩ ⟨[0, 1], I, by decide⟩ ?_ ?_
 rintro w G y bc s ob am M ⟨e, rfl, rfl⟩ h
 unfold Ue.B4 at h
 have an := Di M
 refine Aq I (Aa fun bd ao => Av (v := true) I an (nI ?_))
 subst ao
 refine nH (nJ (nH (nD (Ap 2 [.x 0 w (A4 G)] I ⟨⟨I, Ah am⟩, J⟩ (nG [] I (nN (cs := [.v (.string ⟨#[]⟩), .V 0, .V 0, .V 0, .V 0]) (m := 5) I I I I I dS fun be => nG [2] I (Ax 2 0 0 [A4 G] I (nE ?_))))))))
 obtain ⟨bf, aq, h⟩ := Ac h
 refine nD (Ap 3 [.o 2 2] I J1 (nG [] I (nR 1 (([G.Node] : List Int).map rI) (nG [1] I (Bf 1 I aq fun ar => Af 1 I (nE (nD (Ap 2 [.k 0 (w + 1 : Nat)] I ⟨Bt M aj, J⟩ ?_))))))))
 obtain rfl := oi h
 refine nE ?_
 exact lg ⟨ar, I2⟩ [0, 1]
 rintro y s ob ⟨e, rfl, rfl⟩ he
 subst he
 have h := al
 have au := Dj a.Stations.length
 refine Aq I (Aa fun bg bh => Av (v := false) I au (nO ?_))
 exact lg ⟨y, e, h, I2⟩ [0, 1]
 rintro s ob ⟨E, F, h, rfl, rfl⟩
 unfold Ue.J3 at h
 refine nH ?_
 obtain ⟨bi, av, h⟩ := Ac h
 refine nD (Af 1 I (Ck (Yp.makeFunc I I) I (nG [] I (Dq I (.refl _) I I (.cons (.us 1 I) (.cons (.fn (.rest _) (.cons (.box 0 I (.rest _)) (.rest _))) (.rest _))) I (S2 _ (.fn 162 [] [.eptr (Ab a)]) I (fun x => some (Mr x a)) (fun x r h => by obtain I := oi h; exact aH x a _ I) _ av) dS (by rintro _ _ ⟨rfl, _⟩; rfl) ?_))))
 rintro _ ⟨_, rfl, -⟩
 refine Af 2 I (nE (nM g0 ?_))
 obtain rfl := oi h
 exact nK pr
theorem cT (a : Segment) (r : Bool) (h : Nm a = some r) : ACalls Am 164 [.agg (Ar a)] [] (fun x new => x = .v (.bool r) ∧ new = []) := by
 refine Ag Tryz.func164 rfl rfl rfl fun C hC => ?_
 unfold Nm at h
 refine Aa fun y1 H => nD (nG [] I (nQ (cs := Ar a) (m := 7) I I I dS fun t => Af 1 I (nE ?_)))
 subst H
 refine Aa fun y3 K => Dt 27 ((a.From == a.To) || ((!(De a.Capacity 1 1000000)) || ((!(De a.Resist 0 1000)) || (!(De a.Wave 0 100000))))) ?_ ?_
 refine nD (Ap 6 [.o 1 0, .o 3 0] I J2 ?_)
 rcases bt ((a.From == a.To)) with d | d
 refine Ad 10 I d (Af 17 I (nE ?_))
 exact jf (by simp only [d, bz]) I I I2
 refine Ad 10 I d (Ap 2 [.o 1 0] I J1 (Br I I I (Cg (Dx a.Capacity 1 1000000 _ I) (Af 3 I ?_))))
 rcases bt ((!(De a.Capacity 1 1000000))) with f | f
 refine Ad 16 I f (Af 11 I (nE ?_))
 exact jf (by simp only [d, f, bz]) I I I2
 refine Ad 16 I f (Ap 2 [.o 1 0] I J1 (Br I I I (Cg (Dx a.Resist 0 1000 _ I) (Af 3 I ?_))))
 rcases bt ((!(De a.Resist 0 1000))) with i | i
 refine Ad 22 I i (Af 5 I (nE ?_))
 exact jf (by simp only [d, f, i, bz]) I I I2
 refine Ad 22 I i (Ap 2 [.o 1 0] I J1 (Br I I I (Cg (Dx a.Wave 0 100000 _ I) (Af 2 I (nE ?_)))))
 exact jf (by simp only [d, f, i, bz]) I I I2
 refine Ay h I ?_ ?_
 intro M h
 refine Aq I (nM g0 ?_)
 obtain rfl := oi h
 exact nK pr
 intro M h
 refine nI ?_
 subst K
 refine Al (fun s ob => ∃ (D : Unit), Nm.J1 a D = some r ∧ s = [] ∧ ob = [.arr t 83 7 1 [Ar a]]) [(1, _)] J1 ?_ ?_
 refine Bu [.o 1 0, .l 2 (a.Points.length : Int)] I ⟨Bh, I, J⟩ (nJ (Cz 29 I fun N => ?_))
 obtain ⟨ah, O, E⟩ := Ac h
 clear h
 refine C1 O [(1, _), (29, _), (30, _)] J3 (fun (j : Nat) (F : Unit) s ob => s = [(31, .V (j : Int))] ∧ ob = [.arr t 83 7 1 [Ar a]]) ⟨I, I⟩ ⟨I, J⟩ ⟨[0], I, by decide⟩ ?_ ?_
 rintro j b F P s ob Q G ⟨rfl, rfl⟩ h R
 unfold Nm.B3 at h
 have S := Di G
 refine Aq I (Aa fun ai U => Av (v := true) I S (nI ?_))
 subst U
 refine nH (nJ (Aa fun aj W => nD (Ap 3 [.x 1 j (C2 b)] I ⟨⟨I, Ah Q⟩, J⟩ (nG [] I (nN (cs := [.V 0, .V 0, .V 0]) (m := 3) I I I I I dS fun ak => Af 1 I (nG [1] I (Ax 1 0 0 [C2 b] I (nE ?_))))))))
 subst W
 refine Al (fun s ob => ∃ (u : Bool), Nm.J4 u = some P ∧ s = [(61, .v (.bool u))] ∧ ob = [.arr t 83 7 1 [Ar a]]) [(1, _), (29, _), (30, _), (31, _)] J4 ?_ ?_
 rcases bt ((!(De b.Height (-500) 5000))) with e | e
 replace h := B0 e h
 refine Bw (pd 26 0 [2, 7]) [1] [_] I (By 2 [.o 1 0] I J1 (Ee I (Dx b.Height (-500) 5000 _ I) (Bm 2 I (Bq 40 I e (Bm 9 I (Ct I I I I dS (Ct I I I I dS (Ct I I I I dS (Ct I I I I dS (Ct I I I I dS (Ct I I I I dS (Ct I I I I dS ?_))))))))))))
 refine Ct I I I I dS (Ct I I I I dS (Ct I I I I dS (Bm 2 I (Ak (nE ?_)))))
 exact lg ⟨true, h, I2⟩ [0]
 replace h := Ca e h
 rcases bt ((!(De b.Limit 0 100000000))) with g | g
 replace h := B0 g h
 refine Bw (pd 26 0 [2, 7]) [1] [_] I (By 2 [.o 1 0] I J1 (Ee I (Dx b.Height (-500) 5000 _ I) (Bm 2 I (Bq 40 I e (By 2 [.o 1 0] I J1 (Hy I (Dx b.Limit 0 100000000 _ I) (Bm 3 I (Bq 46 I g (Bm 3 I (Ct I I I I dS (Ct I I I I dS (Ct I I I I dS ?_))))))))))))
 refine Ct I I I I dS (Ct I I I I dS (Ct I I I I dS (Ct I I I I dS (Ct I I I I dS (Ct I I I I dS (Ct I I I I dS (Bm 2 I (Ak (nE ?_)))))))))
 exact lg ⟨true, h, I2⟩ [0]
 replace h := Ca g h
 rcases bt (decide ((j : Int) > 0)) with n | n
 replace h := B0 n h
 obtain ⟨w, ⟨X, Y⟩, h⟩ := Bk h
 refine Bw (pd 26 0 [2, 7]) [1, 0] [_, _] I (By 2 [.o 1 0] I J1 (Ee I (Dx b.Height (-500) 5000 _ I) (Bm 2 I (Bq 40 I e (By 2 [.o 1 0] I J1 (Hy I (Dx b.Limit 0 100000000 _ I) (Bm 3 I (Bq 46 I g (Bm 3 I (Bq 49 I n (By 12 [.o 1 0, .o 3 1, .x 6 w.1 (C2 w.2)] I ⟨⟨X, Ah Y⟩, I, I, J⟩ (Ak ?_))))))))))))
 refine nE ?_
 exact lg ⟨decide (b.At ≤ w.2.At), h, I2⟩ [0]
 replace h := Ca n h
 refine Bw (pd 26 0 [2, 7]) [1] [_] I (By 2 [.o 1 0] I J1 (Ee I (Dx b.Height (-500) 5000 _ I) (Bm 2 I (Bq 40 I e (By 2 [.o 1 0] I J1 (Hy I (Dx b.Limit 0 100000000 _ I) (Bm 3 I (Bq 46 I g (Bm 3 I (Bq 49 I n (Bm 12 I (Ak ?_))))))))))))
 refine nE ?_
 exact lg ⟨false, h, I2⟩ [0]
 rintro s ob ⟨u, h, rfl, rfl⟩
 unfold Nm.J4 at h
 refine Ay h I ?_ ?_
 intro Z h
 refine Aq I ?_
 obtain rfl := R _ (oi h).symm
 replace h := E
 replace h := Do h
 refine nM g0 ?_
 obtain rfl := oi h
 exact nK pr
 intro Z h
 refine nI (nD (Ap 2 [.k 0 (j + 1 : Nat)] I ⟨Bt G N, J⟩ ?_))
 obtain rfl := oi h
 refine nE ?_
 exact ⟨_, _, _, I, I2, J4, [0], I, by decide⟩
 rintro F s ob ⟨rfl, rfl⟩ he
 subst he
 have h := Dh E
 have aa := Dj a.Points.length
 refine Aq I (Aa fun al am => Av (v := false) I aa (nO ?_))
 exact lg ⟨(), h, I2⟩ [0]
 rintro s ob ⟨D, h, rfl, rfl⟩
 unfold Nm.J1 at h
 refine Al (fun s ob => ∃ (y : Bool), Nm.J2 y = some r ∧ s = [(2, .v (.bool y))] ∧ ob = []) [] J ?_ ?_
 obtain ⟨A, ⟨ab, ac⟩, h⟩ := Bk h
 refine Bw (pd 21 0 []) [0] [_] I (By 7 [.o 1 0, .x 2 A.1 (C2 A.2)] I ⟨⟨ab, Ah ac⟩, I, J⟩ ?_)
 rcases bt ((A.2.At == 0)) with p | p
 replace h := B0 p h
 obtain ⟨B, ⟨ad, ae⟩, h⟩ := Bk h
 refine Bq 69 I p (By 14 [.o 1 0, .o 3 0, .l 4 (a.Points.length : Int), .x 6 B.1 (C2 B.2), .o 10 0] I ⟨I, ⟨ad, Ah ae⟩, Bh, I, I, J⟩ (Ak (nE ?_)))
 exact lg ⟨(B.2.At == a.Capacity), h, I2⟩ []
 replace h := Ca p h
 refine Bq 69 I p (Bm 14 I (Ak (nE ?_)))
 exact lg ⟨false, h, I2⟩ []
 rintro s ob ⟨y, h, rfl, rfl⟩
 unfold Nm.J2 at h
 obtain rfl := oi h
 exact nK pr
theorem aE (a : Segment) (r : Bool) (h : Pp a = some r) : ACalls Am 163 [.agg (Ar a)] [] (fun x new => x = .v (.bool r) ∧ new = []) := by
 refine Ag Tryz.func163 rfl rfl rfl fun C hC => ?_
 unfold Pp at h
 refine nH (nD (nG [] I (nQ (cs := Ar a) (m := 7) I I I dS fun d => Af 1 I (nE (nH ?_)))))
 obtain ⟨e, b, h⟩ := Ac h
 refine nD (Ap 1 [.o 0 0] I J1 (Cg (cT _ _ b) (Af 2 I (nE (nM g0 ?_)))))
 obtain rfl := oi h
 exact nK pr
theorem aJ (a : Port) (r : Bool) (h : Ms a = r) : ACalls Am 166 [.agg (Bj a)] [] (fun x new => x = .v (.bool r) ∧ new = []) := by
 refine Ag Tryz.func166 rfl rfl rfl fun C hC => ?_
 unfold Ms at h
 refine nH (nD (nG [] I (nQ (cs := Bj a) (m := 3) I I I dS fun b => Af 1 I (nE (nH (nD (Ap 2 [.o 1 0] I J1 (Cg (Dx a.Pressure 0 100000000 _ I) (Af 2 I (nE (nM g0 ?_)))))))))))
 obtain rfl := h
 exact nK pr
theorem cN (a : Station) (r : Bool) (h : Ni a = r) : ACalls Am 169 [.agg (A4 a)] [] (fun x new => x = .v (.bool r) ∧ new = []) := by
 refine Ag Tryz.func169 rfl rfl rfl fun C hC => ?_
 unfold Ni at h
 refine Aa fun f e => nD (nG [] I (nQ (cs := A4 a) (m := 5) I I I dS fun g => Af 1 I (nE ?_)))
 subst e
 refine Al (fun s ob => s = [(2, .v (.bool ((!(De a.Head 0 100000000)) || ((!(De a.Fall 0 100000)) || (!(De a.Suction 0 100000000))))))] ∧ ob = []) [] J ?_ ?_
 refine nD (Ap 2 [.o 1 0] I J1 (Cg (Dx a.Head 0 100000000 _ I) (Af 2 I ?_)))
 rcases bt ((!(De a.Head 0 100000000))) with b | b
 refine Ad 7 I b (Af 12 I (nE ?_))
 exact lf I2 ⟨(Dz (by simp only [b, bz])), J⟩ [] I
 refine Ad 7 I b (Ap 2 [.o 1 0] I J1 (Br I I I (Cg (Dx a.Fall 0 100000 _ I) (Af 3 I ?_))))
 rcases bt ((!(De a.Fall 0 100000))) with d | d
 refine Ad 13 I d (Af 6 I (nE ?_))
 exact lf I2 ⟨(Dz (by simp only [b, d, bz])), J⟩ [] I
 refine Ad 13 I d (Ap 2 [.o 1 0] I J1 (Br I I I (Cg (Dx a.Suction 0 100000000 _ I) (Af 3 I (nE ?_)))))
 exact lf I2 ⟨(Dz (by simp only [b, d, bz])), J⟩ [] I
 rintro s ob ⟨rfl, rfl⟩
 obtain rfl := h
 exact nK pr
theorem cQ (a : Network) (r : Bool) (h : Ud a = some r) : ACalls Am 140 [.agg (Ab a)] [] (fun x new => x = .v (.bool r) ∧ new = []) := by
 refine Ag Tryz.func140 rfl rfl rfl fun C hC => ?_
 unfold Ud at h
 refine Aa fun p d => nD (nG [] I (nQ (cs := Ab a) (m := 6) I I I dS fun t => Af 1 I (nE ?_)))
 subst d
 refine Aa fun u e => nH ?_
 obtain ⟨w, f, h⟩ := Ac h
 refine nD (Ap 2 [.o 1 0] I J1 (Cg (S0 _ (.v (.func (.func 163) #[] #[])) I (fun x => Pp x) (fun x r h => aE x r h) _ f) (nE (Ay h I ?_ ?_))))
 intro g h
 refine Aq I (nM g0 ?_)
 obtain rfl := oi h
 exact nK pr
 intro g h
 refine nI ?_
 subst e
 refine Aa fun y i => nH ?_
 obtain ⟨A, j, h⟩ := Ac h
 refine nD (Ap 2 [.o 1 0] I J1 (Cg (cP _ (.v (.func (.func 166) #[] #[])) I (fun x => some (Ms x)) (fun x r h => by obtain I := oi h; exact aJ x _ I) _ j) (nE (Ay h I ?_ ?_))))
 intro k h
 refine Aq I (nM g0 ?_)
 obtain rfl := oi h
 exact nK pr
 intro k h
 refine nI ?_
 subst i
 refine nH (nH ?_)
 obtain ⟨B, l, h⟩ := Ac h
 refine nD (Ap 2 [.o 1 0] I J1 (Cg (aS _ (.v (.func (.func 169) #[] #[])) I (fun x => some (Ni x)) (fun x r h => by obtain I := oi h; exact cN x _ I) _ l) (nE (Ay h I ?_ ?_))))
 intro n h
 refine Aq I (nM g0 ?_)
 obtain rfl := oi h
 exact nK pr
 intro n h
 refine nI (Al (fun s ob => s = [(2, .v (.bool ((De a.Vapour (-100000) 100000000) && (De a.Settle 0 100))))] ∧ ob = []) [] J ?_ ?_)
 refine nD (Ap 2 [.o 1 0] I J1 (Cg (Dx a.Vapour (-100000) 100000000 _ I) (Af 1 I ?_)))
 rcases bt ((De a.Vapour (-100000) 100000000)) with b | b
 refine Ad 15 I b (Ap 2 [.o 1 0] I J1 (Br I I I (Cg (Dx a.Settle 0 100 _ I) (Af 2 I (nE ?_)))))
 exact lf I2 ⟨(Dz (by simp only [b, bz])), J⟩ [] I
 refine Ad 15 I b (Af 5 I (nE ?_))
 exact lf I2 ⟨(Dz (by simp only [b, bz])), J⟩ [] I
 rintro s ob ⟨rfl, rfl⟩
 obtain rfl := oi h
 exact nK pr
theorem bA (a : ByteArray) (r : Bool) (h : P1 a = some r) : ACalls Am 136 [.v (.string a)] [] (fun x new => x = .v (.bool r) ∧ new = []) := by
 refine Ag Tryz.func136 rfl rfl rfl fun C hC => ?_
 unfold P1 at h
 refine Aq I (nH ?_)
 obtain ⟨d, b, h⟩ := Ac h
 refine nD (Af 1 I (Cg (cU _ _ b) (Af 2 I (nE ?_))))
 obtain rfl := oi h
 exact nK pr
theorem Kl (a : Network) (r : Int) (h : Gk a = some r) : ACalls Am 87 [.agg (Ab a)] [] (fun x new => x = .V r ∧ new = []) := by
 refine Ag Tryz.func87 rfl rfl rfl fun C hC => ?_
 unfold Gk at h
 refine Aa fun Y i => nD (nG [] I (nQ (cs := Ab a) (m := 6) I I I dS fun d => Af 1 I (nE ?_)))
 subst i
 refine Aa fun Z j => nH ?_
 obtain ⟨r4, l, h⟩ := Ac h
 refine nD (Ap 1 [.o 0 0] I J1 (Cg (bI _ _ l) (Af 1 I (nE (Ay h I ?_ ?_)))))
 intro n h
 refine Aq I (nM g0 ?_)
 obtain rfl := oi h
 exact nK pr
 intro n h
 refine nI ?_
 subst j
 refine Al (fun s ob => ∃ (e : Unit), Gk.J1 a e = some r ∧ s = [] ∧ ob = [.arr d 32 6 1 [Ab a]]) [(1, _)] J1 ?_ ?_
 refine Aa fun ab t => ?_
 obtain ⟨ac, u, h⟩ := Ac h
 refine nD (Ap 1 [.o 0 0] I J1 (nG [] I (Bp I I I (Tv _ _ u) dS ?_)))
 rintro _ _ ⟨rfl, rfl⟩
 refine Af 1 I (nE ?_)
 subst t
 refine nJ ?_
 have w : (4 : Nat) ≤ 9223372036854775806 := by decide
 obtain ⟨ad, y, f⟩ := Ac h
 clear h
 refine Ga y [(1, _), (9, _)] J2 (fun (b : Nat) (g : Unit) s ob => s = [(10, .V (b : Int))] ∧ ob = [.arr d 32 6 1 [Ab a]]) ⟨I, I⟩ ⟨I, J⟩ ⟨[0], I, by decide⟩ ?_ ?_
 rintro b g ae s ob A ⟨rfl, rfl⟩ h B
 unfold Gk.B2 at h
 have D : decide ((b : Int) < 4) = true := decide_eq_true (by omega)
 refine Aq I (Aa fun af E => Av (v := true) I D (nI ?_))
 subst E
 refine nH (nJ (nH ?_))
 obtain ⟨F, ⟨G, H⟩, h⟩ := Bk h
 refine nD (Ck (Ge (m := F.1) I I I I I I I G H (hlen := Arr.h _)) I (Af 1 I (nE (nH ?_))))
 obtain ⟨ag, K, h⟩ := Ac h
 refine nD (Af 1 I (Cg (bL _ (.v (.func (.func 136) #[] #[])) I (fun x => P1 x) (fun x r h => bA x r h) _ K) (nE (Ay h I ?_ ?_))))
 intro M h
 refine Aq I ?_
 obtain rfl := B _ (oi h).symm
 replace h := f
 replace h := Do h
 refine nM g0 ?_
 obtain rfl := oi h
 exact nK pr
 intro M h
 refine nI (nD (Ap 2 [.k 0 (b + 1 : Nat)] I ⟨Bt A w, J⟩ ?_))
 obtain rfl := oi h
 refine nE ?_
 exact ⟨_, _, _, I, I2, J3, [0], I, by decide⟩
 rintro g s ob ⟨rfl, rfl⟩ he
 subst he
 have h := Dh f
 have N : decide (((4 : Nat) : Int) < 4) = false := by simp
 refine Aq I (Aa fun ah ai => Av (v := false) I N (nO ?_))
 exact lg ⟨(), h, I2⟩ [0]
 rintro s ob ⟨e, h, rfl, rfl⟩
 unfold Gk.J1 at h
 refine nH (nJ (Aa fun aj O => ?_))
 obtain ⟨ak, P, h⟩ := Ac h
 refine nD (Ap 1 [.o 0 0] I J1 (Cg (aG _ _ P) (Af 1 I (nE ?_))))
 subst O
 refine Ay h I ?_ ?_
 intro Q h
 refine Aq I (nM g0 ?_)
 obtain rfl := oi h
 exact nK pr
 intro Q h
 refine Aa fun al R => ?_
 obtain ⟨am, S, h⟩ := Ac h
 refine nD (Ap 1 [.o 0 0] I J1 (Cg (cW _ _ S) (Af 2 I (nE ?_))))
 subst R
 refine Ay h I ?_ ?_
 intro U h
 refine Aq I (nM g0 ?_)
 obtain rfl := oi h
 exact nK pr
 intro U h
 refine nH ?_
 obtain ⟨an, W, h⟩ := Ac h
 refine nD (Ap 1 [.o 0 0] I J1 (Cg (cQ _ _ W) (Af 2 I (nE (Ay h I ?_ ?_)))))
 intro X h
 refine Aq I (nM g0 ?_)
 obtain rfl := oi h
 exact nK pr
 intro X h
 refine nI (Aq I (nM g0 ?_))
 obtain rfl := oi h
 exact nK pr
theorem S6 (d : Nat) (a : flow_streams) (j : Int) (n : Int) (p : Int) (r : flow_streams) (h : Jg a j n p = some r) : ACalls Am 153 [.v (.pointer (some ⟨d, 0, none⟩)), .V j, .V n, .V p] [.arr d 175 48 1 [a.come.l.map cI ++ (a.leave.l.map cI ++ [])]] (Gp 1 fun x os new => x = .tup [] ∧ os = [.arr d 175 48 1 [r.come.l.map cI ++ (r.leave.l.map cI ++ [])]] ∧ new = []) := by
 refine Ag Tryz.func153 rfl rfl rfl fun C hC => ?_
 unfold Jg at h
 refine Al (fun s ob => ∃ (b : Int × Int × Int), Jg.J1 a b = some r ∧ s = [(1, .V b.1), (2, .V b.2.1), (3, .V b.2.2)] ∧ ob = [.arr d 175 48 1 [a.come.l.map cI ++ (a.leave.l.map cI ++ [])]]) [(0, _)] J1 ?_ ?_
 refine Aq I (Ay h I ?_ ?_)
 intro A h
 refine Pd I ?_
 exact lg ⟨(n, j, wr (0 - p)), h, I2⟩ [0]
 intro A h
 refine nI ?_
 exact lg ⟨(j, n, p), h, I2⟩ [0]
 rintro s ob ⟨b, h, rfl, rfl⟩
 unfold Jg.J1 at h
 refine Al (fun s ob => ∃ (f : Arr Int 24), Jg.J2 a b f = some r ∧ s = [] ∧ ob = [.arr d 175 48 1 [a.come.l.map cI ++ (f.l.map cI ++ [])]]) [(0, _), (2, _), (3, _)] J3 ?_ ?_
 refine Aq I (Ay h I ?_ ?_)
 intro B h
 obtain ⟨e, ⟨u, g⟩, h⟩ := Bk h
 refine Bw (sl 11 0 (.drop 11 .nil)) [0] [_] I (Bm 4 I (nV I (Iz (m := e.1) I I I I I I u (Mm g)) I (AP.o I (Bx 0 0 (24 + e.1) I I I I (by omega) (y := .V e.2) (fB (k := 24) (by simp [Arr.h, Bv]) (Vc g))) I (Bm 4 I (nV I (Iz (m := e.1) I I I I I I u (Mm g)) I (nW [0] I I I (nU 0 0 (24 + e.1) (es' := [a.come.l.map cI ++ ((a.leave.set e.1 (wr (e.2 + b.2.2))).l.map cI ++ [])]) I I I I (by omega) I I I (X9 (Mm g) (by simp [Arr.h, Bv])) I (congrArg (fun r => [r]) (Ur (k := 24) (by simp [Arr.h, Bv]) (L8 (Tz g)))) (Ak (nE ?_)))))))))
 exact lg ⟨(a.leave.set e.1 (wr (e.2 + b.2.2))), h, I2⟩ [0]
 intro B h
 refine nI ?_
 exact lg ⟨a.leave, h, I2⟩ [0]
 rintro s ob ⟨f, h, rfl, rfl⟩
 unfold Jg.J2 at h
 refine Aq I (Ay h I ?_ ?_)
 intro D h
 obtain ⟨c, ⟨w, i⟩, h⟩ := Bk h
 refine Bw (sl 11 0 (.drop 11 .nil)) [0] [_] I (Bm 4 I (nV I (Iz (m := c.1) I I I I I I w (Mm i)) I (AP.o I (Bx 0 0 (0 + c.1) I I I I (by omega) (y := .V c.2) (by rw [Nat.zero_add]; exact Vc i)) I (Bm 4 I (nV I (Iz (m := c.1) I I I I I I w (Mm i)) I (nW [0] I I I (nU 0 0 (0 + c.1) (es' := [(a.come.set c.1 (wr (c.2 + b.2.2))).l.map cI ++ (f.l.map cI ++ [])]) I I I I (by omega) I I I (X9 (Mm i) (by simp [Arr.h, Bv])) I (congrArg (fun r => [r]) (by rw [Nat.zero_add]; exact L8 (Tz i))) (Ak ?_))))))))
 obtain rfl := oi h
 refine nE ?_
 exact ⟨.inl I, [], [.arr d 175 48 1 [(a.come.set c.1 (wr (c.2 + b.2.2))).l.map cI ++ (f.l.map cI ++ [])]], J, Dn I (Cf), ⟨[.arr d 175 48 1 [(a.come.set c.1 (wr (c.2 + b.2.2))).l.map cI ++ (f.l.map cI ++ [])]], [], I5⟩⟩
 intro D h
 obtain rfl := oi h
 refine nI ?_
 exact ⟨.inl I, [], [.arr d 175 48 1 [a.come.l.map cI ++ (f.l.map cI ++ [])]], J, Dn I (Cf), ⟨[.arr d 175 48 1 [a.come.l.map cI ++ (f.l.map cI ++ [])]], [], I5⟩⟩
theorem Sw (a : Network) (c : Plan) (r : flow_streams) (h : Jd a c = some r) : ACalls Am 131 [.agg (Ab a), .agg (As c)] [] (fun x new => x = .agg (Bv r) ∧ new = []) := by
 refine Ag Tryz.func131 rfl rfl rfl fun C hC => ?_
 unfold Jd at h
 refine Aa fun y1 G => nD (nG [] I (nQ (cs := Ab a) (m := 6) I I I dS fun u => nG [] I (nQ (cs := As c) (m := 3) I I I dS fun t => nG [] I (nN (cs := (Arr.rep 24 (0 : Int)).l.map cI ++ ((Arr.rep 24 (0 : Int)).l.map cI ++ [])) (m := 48) I I I I I dS fun i => nE ?_))))
 subst G
 refine Aa fun y5 H => nD (nG [] I (nN (cs := (Arr.rep 24 (0 : Int)).l.map cI ++ ((Arr.rep 24 (0 : Int)).l.map cI ++ [])) (m := 48) I I I I I dS fun e => nE ?_))
 subst H
 refine Al (fun s ob => ∃ (j : (Arr Int 24) × (Arr Int 24)), Jd.J1 a c j = some r ∧ s = [] ∧ ob = [.arr u 32 6 1 [Ab a], .arr t 37 3 1 [As c], .arr i 175 48 1 [(Arr.rep 24 (0 : Int)).l.map cI ++ ((Arr.rep 24 (0 : Int)).l.map cI ++ [])], .arr e 175 48 1 [j.1.l.map cI ++ (j.2.l.map cI ++ [])]]) [(2, _), (3, _), (4, _), (5, _)] J4 ?_ ?_
 refine Bu [.o 1 0, .l 2 (a.Segments.length : Int)] I ⟨Bh, I, J⟩ (nJ (Cz 11 I fun K => ?_))
 obtain ⟨ak, M, O⟩ := Ac h
 clear h
 refine Dl M [(2, _), (3, _), (4, _), (5, _), (11, _), (12, _)] J6 (fun (n : Nat) (f : (Arr Int 24) × (Arr Int 24)) s ob => s = [(13, .V (n : Int))] ∧ ob = [.arr u 32 6 1 [Ab a], .arr t 37 3 1 [As c], .arr i 175 48 1 [(Arr.rep 24 (0 : Int)).l.map cI ++ ((Arr.rep 24 (0 : Int)).l.map cI ++ [])], .arr e 175 48 1 [f.1.l.map cI ++ (f.2.l.map cI ++ [])]]) ⟨I, I⟩ ⟨I, J⟩ ⟨[0, 1, 2, 3], I, by decide⟩ ?_ ?_
 rintro n w f al s ob P A ⟨rfl, rfl⟩ h
 unfold Jd.B4 at h
 have Q := Di A
 refine Aq I (Aa fun am R => Av (v := true) I Q (nI ?_))
 subst R
 refine nH (nJ (nH (nD (Ap 3 [.x 1 n (Ar w)] I ⟨⟨I, Ah P⟩, J⟩ (nG [] I (nN (cs := [.v (.string ⟨#[]⟩), .V 0, .V 0, .V 0, .V 0, .V 0, .N]) (m := 7) I I I I I dS fun an => Af 1 I (nG [4] I (Ax 4 0 0 [Ar w] I (nE ?_)))))))))
 obtain ⟨B, ⟨S, U⟩, h⟩ := Bk h
 obtain ⟨ao, W, h⟩ := Ac h
 refine Bw (pd 10 0 [9]) [4, 1] [_, _] I (By 9 [.o 1 0, .o 3 0, .o 5 1, .x 7 B.1 (rI B.2)] I ⟨⟨S, Ah U⟩, I, I, I, J⟩ (nF [3] I I I (A5 [3] (S6 e _ _ _ _ _ W) ?_)))
 refine Ak (nE (nD (Ap 2 [.k 0 (n + 1 : Nat)] I ⟨Bt A K, J⟩ ?_)))
 obtain rfl := oi h
 refine nE ?_
 exact lg I2 [0, 1, 2, 3]
 rintro f s ob ⟨rfl, rfl⟩ he
 subst he
 have h := O
 have X := Dj a.Segments.length
 refine Aq I (Aa fun ap aq => Av (v := false) I X (nO ?_))
 exact lg ⟨(f.1, f.2), h, I2⟩ [0, 1, 2, 3]
 rintro s ob ⟨j, h, rfl, rfl⟩
 unfold Jd.J1 at h
 refine Al (fun s ob => ∃ (b : (Arr Int 24) × (Arr Int 24)), Jd.J2 b = some r ∧ s = [] ∧ ob = [.arr i 175 48 1 [(Arr.rep 24 (0 : Int)).l.map cI ++ ((Arr.rep 24 (0 : Int)).l.map cI ++ [])], .arr e 175 48 1 [b.1.l.map cI ++ (b.2.l.map cI ++ [])]]) [(4, _), (5, _)] J2 ?_ ?_
 refine Bu [.o 1 0, .l 2 (a.Ports.length : Int)] I ⟨Bh, I, J⟩ (nJ (Cz 30 I fun Y => ?_))
 obtain ⟨ar, Z, aa⟩ := Ac h
 clear h
 refine Dl Z [(3, _), (4, _), (5, _), (30, _), (31, _)] J5 (fun (p : Nat) (g : (Arr Int 24) × (Arr Int 24)) s ob => s = [(32, .V (p : Int))] ∧ ob = [.arr t 37 3 1 [As c], .arr i 175 48 1 [(Arr.rep 24 (0 : Int)).l.map cI ++ ((Arr.rep 24 (0 : Int)).l.map cI ++ [])], .arr e 175 48 1 [g.1.l.map cI ++ (g.2.l.map cI ++ [])]]) ⟨I, I⟩ ⟨I, J⟩ ⟨[1, 2, 3], I, by decide⟩ ?_ ?_
 rintro p D g au s ob ab E ⟨rfl, rfl⟩ h
 unfold Jd.B3 at h
 have ac := Di E
 refine Aq I (Aa fun av ad => Av (v := true) I ac (nI ?_))
 subst ad
 refine nH (nJ (nH (nD (Ap 3 [.x 1 p (Bj D)] I ⟨⟨I, Ah ab⟩, J⟩ (nG [] I (nN (cs := [.v (.string ⟨#[]⟩), .V 0, .V 0]) (m := 3) I I I I I dS fun aw => Af 1 I (nG [3] I (Ax 3 0 0 [Bj D] I (nE ?_)))))))))
 obtain ⟨F, ⟨ae, af⟩, h⟩ := Bk h
 obtain ⟨ax, ag, h⟩ := Ac h
 refine Bw (pd 8 0 [7]) [3, 0] [_, _] I (By 7 [.o 1 0, .o 3 1, .x 5 F.1 (rI F.2)] I ⟨⟨ae, Ah af⟩, I, I, J⟩ (nF [2] I I I (A5 [2] (S6 e _ _ _ _ _ ag) ?_)))
 refine Ak (nE (nD (Ap 2 [.k 0 (p + 1 : Nat)] I ⟨Bt E Y, J⟩ ?_)))
 obtain rfl := oi h
 refine nE ?_
 exact lg I2 [0, 1, 2]
 rintro g s ob ⟨rfl, rfl⟩ he
 subst he
 have h := aa
 have ah := Dj a.Ports.length
 refine Aq I (Aa fun ay az => Av (v := false) I ah (nO ?_))
 exact lg ⟨(g.1, g.2), h, I2⟩ [1, 2]
 rintro s ob ⟨b, h, rfl, rfl⟩
 unfold Jd.J2 at h
 refine nH (nD (nS (Bx 1 0 0 I I I I I (y := .agg (b.1.l.map cI ++ (b.2.l.map cI ++ []))) (Lz I (by simp [Arr.h, Bv]))) I (nG [0] I (nU 0 0 0 (es' := [b.1.l.map cI ++ (b.2.l.map cI ++ [])]) I I I I I I I (by simp [Arr.h, Bv]) (by simp [Arr.h, Bv]) I (congrArg (fun r => [r]) (Lx (by simp [Arr.h, Bv]))) (nE (Cb [0] I ?_))))))
 obtain rfl := oi h
 exact nK ⟨.inr I, [_], [], ⟨⟨0, _, _, _, _, _, _, _, I, I, I, I, (Lz I (by simp [Arr.h, Bv]))⟩, J⟩, Cf, I2⟩
theorem cJ (a : Int) (r : Bool) (h : Nh a = r) : ACalls Am 130 [.V a] [] (fun x new => x = .v (.bool r) ∧ new = []) := by
 refine Ag Tryz.func130 rfl rfl rfl fun C hC => ?_
 unfold Nh at h
 refine Aq I (nH (nD (Af 1 I (Cg (Tb a 1000 _ I) (Af 2 I (nE ?_))))))
 obtain rfl := h
 exact nK pr
theorem Ie (e : Network) (f : Plan) (r : Int) (h : Gj e f = some r) : ACalls Am 86 [.agg (Ab e), .agg (As f)] [] (fun x new => x = .V r ∧ new = []) := by
 refine Ag Tryz.func86 rfl rfl rfl fun C hC => ?_
 unfold Gj at h
 refine Aa fun y1 G => nD (nG [] I (nQ (cs := Ab e) (m := 6) I I I dS fun w => nG [] I (nQ (cs := As f) (m := 3) I I I dS fun A => Af 1 I (nE ?_))))
 subst G
 refine Aa fun y4 H => nH ?_
 obtain ⟨r5, K, h⟩ := Ac h
 refine nD (Ap 1 [.o 0 0] I J1 (Cg (Kl _ _ K) (Af 1 I (nE (Aq I (Ay h I ?_ ?_))))))
 intro M h
 refine Aq I (nM g0 ?_)
 obtain rfl := oi h
 exact nK pr
 intro M h
 refine nI ?_
 subst H
 refine Aa fun y8 O => Dt 38 (((f.Rates.length : Int) != (e.Segments.length : Int)) || (((f.Ports.length : Int) != (e.Ports.length : Int)) || ((f.Pumps.length : Int) != (e.Stations.length : Int)))) ?_ ?_
 refine nD (Ap 8 [.o 1 1, .l 2 (f.Rates.length : Int), .o 4 0, .l 5 (e.Segments.length : Int)] I ⟨Bh, I, Bh, I, J⟩ ?_)
 rcases bt (((f.Rates.length : Int) != (e.Segments.length : Int))) with g | g
 refine Ad 21 I g (Af 17 I (nE ?_))
 exact jf (by simp only [g, bz]) I I I2
 refine Ad 21 I g (Ap 9 [.o 1 1, .l 2 (f.Ports.length : Int), .o 4 0, .l 5 (e.Ports.length : Int)] I ⟨Bh, I, Bh, I, J⟩ ?_)
 rcases bt (((f.Ports.length : Int) != (e.Ports.length : Int))) with j | j
 refine Ad 30 I j (Af 8 I (nE ?_))
 exact jf (by simp only [g, j, bz]) I I I2
 refine Ad 30 I j (Ap 8 [.o 1 1, .l 2 (f.Pumps.length : Int), .o 4 0, .l 5 (e.Stations.length : Int)] I ⟨Bh, I, Bh, I, J⟩ (nE ?_))
 exact jf (by simp only [g, j, bz]) I I I2
 refine Ay h I ?_ ?_
 intro P h
 refine Aq I (nM g0 ?_)
 obtain rfl := oi h
 exact nK pr
 intro P h
 refine nI ?_
 subst O
 refine Al (fun s ob => ∃ (B : Unit), Gj.J1 e f B = some r ∧ s = [] ∧ ob = [.arr w 32 6 1 [Ab e], .arr A 37 3 1 [As f]]) [(2, _), (3, _)] J2 ?_ ?_
 refine Bu [.o 1 0, .l 2 (e.Segments.length : Int)] I ⟨Bh, I, J⟩ (nJ (Cz 40 I fun Q => ?_))
 obtain ⟨ap, R, D⟩ := Ac h
 clear h
 refine C1 R [(2, _), (3, _), (40, _), (41, _)] J4 (fun (n : Nat) (E : Unit) s ob => s = [(42, .V (n : Int))] ∧ ob = [.arr w 32 6 1 [Ab e], .arr A 37 3 1 [As f]]) ⟨I, I⟩ ⟨I, J⟩ ⟨[0, 1], I, by decide⟩ ?_ ?_
 rintro n t E aq s ob S F ⟨rfl, rfl⟩ h U
 unfold Gj.B2 at h
 have W := Di F
 refine Aq I (Aa fun ar X => Av (v := true) I W (nI ?_))
 subst X
 refine nH (nJ (Aa fun au Y => nD (Ap 3 [.x 1 n (Ar t)] I ⟨⟨I, Ah S⟩, J⟩ (nG [] I (nN (cs := [.v (.string ⟨#[]⟩), .V 0, .V 0, .V 0, .V 0, .V 0, .N]) (m := 7) I I I I I dS fun av => Af 1 I (nG [2] I (Ax 2 0 0 [Ar t] I (nE ?_))))))))
 subst Y
 refine nH ?_
 obtain ⟨u, ⟨Z, aa⟩, h⟩ := Bk h
 refine Bw (pd 10 0 [8]) [1, 2] [_, _] I (By 8 [.o 1 0, .x 3 u.1 (rI u.2), .o 6 1] I ⟨I, ⟨Z, Ah aa⟩, I, J⟩ (Ee I (Tb u.2 (min 1000 t.Capacity) _ I) (Bm 1 I (Ak (nE (Ay h I ?_ ?_))))))
 intro ab h
 refine Aq I ?_
 obtain rfl := U _ (oi h).symm
 replace h := D
 replace h := Do h
 refine nM g0 ?_
 obtain rfl := oi h
 exact nK pr
 intro ab h
 refine nI (nD (Ap 2 [.k 0 (n + 1 : Nat)] I ⟨Bt F Q, J⟩ ?_))
 obtain rfl := oi h
 refine nE ?_
 exact ⟨_, _, _, I, I2, J5, [0, 1], I, by decide⟩
 rintro E s ob ⟨rfl, rfl⟩ he
 subst he
 have h := Dh D
 have ac := Dj e.Segments.length
 refine Aq I (Aa fun aw ax => Av (v := false) I ac (nO ?_))
 exact lg ⟨(), h, I2⟩ [0, 1]
 rintro s ob ⟨B, h, rfl, rfl⟩
 unfold Gj.J1 at h
 refine Aa fun ay ad => nH ?_
 obtain ⟨az, ae, h⟩ := Ac h
 refine nD (Ap 2 [.o 1 1] I J1 (Cg (S2 _ (.v (.func (.func 130) #[] #[])) I (fun x => some (Nh x)) (fun x r h => by obtain I := oi h; exact cJ x _ I) _ ae) (nE (Ay h I ?_ ?_))))
 intro af h
 refine Aq I (nM g0 ?_)
 obtain rfl := oi h
 exact nK pr
 intro af h
 refine nI ?_
 subst ad
 refine Aa fun a0 ag => nH ?_
 obtain ⟨i, ah, h⟩ := Ac h
 refine nD (Ap 2 [.o 0 0, .o 1 1] I J2 (nG [] I (Bp I I I (Sw _ _ _ ah) dS ?_)))
 rintro _ _ ⟨rfl, rfl⟩
 refine nG [] I (nN (cs := (Arr.rep 24 (0 : Int)).l.map cI ++ ((Arr.rep 24 (0 : Int)).l.map cI ++ [])) (m := 48) I I I I I dS fun a1 => nG [2] I (nU 2 0 0 (es' := [i.come.l.map cI ++ (i.leave.l.map cI ++ [])]) I I I I I I I (by simp [Arr.h, Bv]) (by simp [Arr.h, Bv]) I (congrArg (fun r => [r]) (Lx (by simp [Arr.h, Bv]))) (nE (nH (nD (Af 1 I (nS (Bx 2 0 0 I I I I I (y := .agg (i.come.l.map cI)) (N2 I (by simp [Arr.h, Bv]))) I (Af 1 I (nS (Bx 2 0 24 I I I I I (y := .agg (i.leave.l.map cI)) (Yy (k := 24) I I (by simp [Arr.h, Bv]) (N2 I (by simp [Arr.h, Bv])))) I (Ck (gD (a := i.come) (b := i.leave) I I I I I Xi I I I) I (nE (Ay h I ?_ ?_))))))))))))
 intro ai h
 refine Aq I (nM g0 ?_)
 obtain rfl := oi h
 exact nK pr
 intro ai h
 refine nI ?_
 subst ag
 refine nH (nH ?_)
 obtain ⟨a2, aj, h⟩ := Ac h
 refine Bw (.still 0 (.still 1 (sl 3 4 (.act 2 (.act 3 (.still 7 .nil)))))) [0, 1] [_, _] I (By 5 [.o 0 0, .o 1 1, .o 3 0, .l 4 (e.Nodes.length : Int)] I ⟨Bh, I, I, I, J⟩ (nF [] I I I (Bp I I I (aU _ _ _ aj) dS ?_)))
 rintro _ _ ⟨a3, rfl, rfl⟩
 refine nF [] I I I (Cd (Cn 3 I I I I) dS (Bm 1 I (Ak (nE (Ay h I ?_ ?_)))))
 intro ak h
 refine Aq I (nM g0 ?_)
 obtain rfl := oi h
 exact nK pr
 intro ak h
 refine nI (Aq I (nM g0 ?_))
 obtain rfl := oi h
 exact nK pr
end Go.Proofs.YtmaamhgjeampmaaGreat
