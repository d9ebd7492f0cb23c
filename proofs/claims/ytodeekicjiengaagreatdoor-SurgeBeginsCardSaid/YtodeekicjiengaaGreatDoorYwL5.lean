/- Walks that show what functions of the program compute; printed by a program of ours. No condition. -/
import Derived.Test.YtodeekicjiengaaGreatDoorYwL0
import Derived.Test.YtodeekicjiengaaGreatDoorYwD
set_option maxRecDepth 100000
namespace Go.Proofs.YtodeekicjiengaaGreatDoor
open Go.Aw
set_option linter.unusedVariables false
set_option linter.unusedSimpArgs false
set_option maxHeartbeats 4000000
theorem Di (a : Int) (c : Int) (d : Int) (r : Bool) (h : Cn a c d = r) : ACalls Aj 154 [.V a, .V c, .V d] [] (RB r) := by
 refine Ae Tryz.func154 I I I fun C hC => ?_
 unfold Cn at h
 refine Ah I (Ai (fun s ob => s = [(6, .v (.bool (decide (a ≥ c) && decide (a ≤ d))))] ∧ ob = []) [] J ?_ ?_)
 refine tV (Af 4 I ?_)
 rcases bt (decide (a ≥ c)) with b | b
 refine Ad 10 I b (Af 5 I (tW ?_))
 exact lf I2 ⟨(Do (by simp only [b, bz])), J⟩ [] I
 refine Ad 10 I b (Af 5 I (tW ?_))
 exact lf I2 ⟨(Do (by simp only [b, bz])), J⟩ [] I
 rintro s ob ⟨rfl, rfl⟩
 obtain rfl := h
 exact uC pr
theorem iN (a : Nw) (r : Arr (List Bt) 4) (h : Qo a = some r) : ACalls Aj 155 [.agg (Ab a)] [] (RV (.agg (r.l.map (cL 1 rS)))) := by
 refine Ae Tryz.func155 I I I fun C hC => ?_
 unfold Qo at h
 refine Aa fun y1 U => tV (tX [] I (Bo (Ab a) 6 fun u => tX [] I (uF W4 4 fun f => tW ?_)))
 subst U
 refine Aa fun y4 W => tV (tX [] I (uF W4 4 fun g => tW ?_))
 subst W
 refine Aa fun y6 X => tV (An 2 [.o 1 0] I J1 (uH (Du (m := 0) I I I I I I (Cb I)) I (tX [2] I (A3 2 0 0 [[Q1 a.Nodes, .N, .N, .N]] I (tW ?_)))))
 subst X
 refine Ai (fun s ob => ∃ (c : List Bt) (b : Value), Qo.J1 a c = some r ∧ s = [] ∧ ob = [O0 u [Ab a], O7 f [W4], O7 g [[Q1 a.Nodes, .v b, .N, .N]], U3 b c]) [(1, _), (2, _), (3, _)] J3 ?_ ?_
 refine Bh [.o 1 0, .l 2 (a.Segments.length : Int)] I ⟨Ax, I, J⟩ (uA (B0 14 I fun Y => uD (Bs 9 1) ?_))
 obtain ⟨a5, Z, aa⟩ := Ac h
 refine Cu Z [(1, _), (2, _), (3, _), (14, _), (15, _)] J5 (fun (w : Nat) (y : List Bt) s ob => ∃ (j : Value), s = [(16, .V (w : Int))] ∧ ob = [O0 u [Ab a], O7 f [W4], O7 g [[Q1 a.Nodes, .v j, .N, .N]], U3 j y]) ⟨(.slice none 0 0), I2⟩ ⟨I, J⟩ ⟨[0, 1, 2, 3], I, by decide⟩ ?_ ?_
 rintro w F y a6 s ob ab M ⟨j, rfl, rfl⟩ h
 have ac := Co M
 refine Ah I (Aa fun a7 ad => Bp I ac (tZ ?_))
 subst ad
 refine uB (uA (uB (tV (An 2 [.x 0 w (Ak F)] I ⟨⟨I, Ag ab⟩, J⟩ (tX [] I (uF W2 7 fun a8 => tX [4] I (A3 4 0 0 [Ak F] I (tW ?_))))))))
 obtain ⟨a9, ae, h⟩ := Ac h
 refine tV (uH (Du (m := 1) I I I I I I (Cb I)) I (An 3 [.o 0 2, .o 2 4] I J2 (tX [] I (uG 1 (([F.Name] : List Bt).map rS) (tX [3] I (C9 3 I ae fun O => uH (Du (m := 1) I I I I I I (Cb I)) I (uS 3 I fun af => tX [2] I (uN 2 0 1 (es' := [[Q1 a.Nodes, .v O, .N, .N]]) I I I I I I (A8 af) I (Cb I) I I (tW (tV (An 2 [.k 0 (w + 1 : Nat)] I ⟨A0 M Y, J⟩ ?_)))))))))))
 cases io h
 exact tW (lg ⟨O, I2⟩ [0, 1, 2, 3])
 rintro y s ob ⟨j, rfl, rfl⟩ he
 subst he
 have h := aa
 have ag := Cp a.Segments.length
 exact Ah I (Aa fun ba bb => Br I ag (uE (lg ⟨y, j, h, I2⟩ [0, 1, 2, 3])))
 rintro s ob ⟨c, b, h, rfl, rfl⟩
 unfold Qo.J1 at h
 refine Ai (fun s ob => ∃ (e : List Bt) (d : Value), Qo.J2 a c e = some r ∧ s = [] ∧ ob = [O0 u [Ab a], O7 f [W4], O7 g [[Q1 a.Nodes, .v b, .v d, .N]], U3 b c, U3 d e]) [(1, _), (2, _), (3, _)] J3 ?_ ?_
 refine Bh [.o 1 0, .l 2 (a.Ports.length : Int)] I ⟨Ax, I, J⟩ (uA (B0 29 I fun ah => uD (Bs 9 1) ?_))
 obtain ⟨bc, ai, aj⟩ := Ac h
 refine Cu ai [(1, _), (2, _), (3, _), (29, _), (30, _)] J5 (fun (A : Nat) (B : List Bt) s ob => ∃ (n : Value), s = [(31, .V (A : Int))] ∧ ob = [O0 u [Ab a], O7 f [W4], O7 g [[Q1 a.Nodes, .v b, .v n, .N]], U3 b c, U3 n B]) ⟨(.slice none 0 0), I2⟩ ⟨I, J⟩ ⟨[0, 1, 2, 3, 4], I, by decide⟩ ?_ ?_
 rintro A G B bd s ob ak P ⟨n, rfl, rfl⟩ h
 have al := Co P
 refine Ah I (Aa fun be am => Bp I al (tZ ?_))
 subst am
 refine uB (uA (uB (tV (An 2 [.x 0 A (Cc G)] I ⟨⟨I, Ag ak⟩, J⟩ (tX [] I (uF W6 3 fun bf => tX [5] I (A3 5 0 0 [Cc G] I (tW ?_))))))))
 obtain ⟨bg, an, h⟩ := Ac h
 refine tV (uH (Du (m := 2) I I I I I I (Cb I)) I (An 3 [.o 0 2, .o 2 5] I J2 (tX [] I (uG 1 (([G.Name] : List Bt).map rS) (tX [4] I (C9 4 I an fun Q => uH (Du (m := 2) I I I I I I (Cb I)) I (uS 4 I fun ao => tX [2] I (uN 2 0 2 (es' := [[Q1 a.Nodes, .v b, .v Q, .N]]) I I I I I I (A8 ao) I (Cb I) I I (tW (tV (An 2 [.k 0 (A + 1 : Nat)] I ⟨A0 P ah, J⟩ ?_)))))))))))
 cases io h
 exact tW (lg ⟨Q, I2⟩ [0, 1, 2, 3, 4])
 rintro B s ob ⟨n, rfl, rfl⟩ he
 subst he
 have h := aj
 have aq := Cp a.Ports.length
 exact Ah I (Aa fun bh bi => Br I aq (uE (lg ⟨B, n, h, I2⟩ [0, 1, 2, 3, 4])))
 rintro s ob ⟨e, d, h, rfl, rfl⟩
 unfold Qo.J2 at h
 refine Ai (fun s ob => ∃ (q : List Bt) (i : Value), Qo.J3 a c e q = some r ∧ s = [] ∧ ob = [O7 f [W4], O7 g [[Q1 a.Nodes, .v b, .v d, .v i]], U3 b c, U3 d e, U3 i q]) [(2, _), (3, _)] J2 ?_ ?_
 refine Bh [.o 1 0, .l 2 (a.Stations.length : Int)] I ⟨Ax, I, J⟩ (uA (B0 44 I fun ar => uD (Bs 9 1) ?_))
 obtain ⟨bj, au, av⟩ := Ac h
 refine Cu au [(2, _), (3, _), (44, _), (45, _)] J4 (fun (D : Nat) (E : List Bt) s ob => ∃ (t : Value), s = [(46, .V (D : Int))] ∧ ob = [O7 f [W4], O7 g [[Q1 a.Nodes, .v b, .v d, .v t]], U3 b c, U3 d e, U3 t E]) ⟨(.slice none 0 0), I2⟩ ⟨I, J⟩ ⟨[1, 2, 3, 4, 5], I, by decide⟩ ?_ ?_
 rintro D H E bk s ob aw R ⟨t, rfl, rfl⟩ h
 have ax := Co R
 refine Ah I (Aa fun bl ay => Bp I ax (tZ ?_))
 subst ay
 refine uB (uA (uB (tV (An 2 [.x 0 D (Ba H)] I ⟨⟨I, Ag aw⟩, J⟩ (tX [] I (uF W5 5 fun bm => tX [5] I (A3 5 0 0 [Ba H] I (tW ?_))))))))
 obtain ⟨bn, az, h⟩ := Ac h
 refine tV (uH (Du (m := 3) I I I I I I (Cb I)) I (An 3 [.o 0 1, .o 2 5] I J2 (tX [] I (uG 1 (([H.Name] : List Bt).map rS) (tX [4] I (C9 4 I az fun S => uH (Du (m := 3) I I I I I I (Cb I)) I (uS 4 I fun a0 => tX [1] I (uN 1 0 3 (es' := [[Q1 a.Nodes, .v b, .v d, .v S]]) I I I I I I (A8 a0) I (Cb I) I I (tW (tV (An 2 [.k 0 (D + 1 : Nat)] I ⟨A0 R ar, J⟩ ?_)))))))))))
 cases io h
 exact tW (lg ⟨S, I2⟩ [0, 1, 2, 3, 4])
 rintro E s ob ⟨t, rfl, rfl⟩ he
 subst he
 have h := av
 have a1 := Cp a.Stations.length
 exact Ah I (Aa fun bo bp => Br I a1 (uE (lg ⟨E, t, h, I2⟩ [0, 1, 2, 3, 4])))
 rintro s ob ⟨q, i, h, rfl, rfl⟩
 unfold Qo.J3 at h
 refine uB (tV (An 1 [.o 0 1] I J1 (tX [0] I (A3 0 0 0 [[Q1 a.Nodes, .v b, .v d, .v i]] I (tW (uD (Bi [2, 3, 4] (K := [U3 b c, U3 d e, U3 i q]) I [] J (ob' := [O7 f [[Q1 a.Nodes, Q1 c, Q1 e, Q1 q]], O7 g [[Q1 a.Nodes, .v b, .v d, .v i]]]) (.cons (.arr (.cons (.refl _) (.cons (.us 0 I) (.cons (.us 1 I) (.cons (.us 2 I) (.rest _)))))) (.rest _))) (Cv [0] I ?_)))))))
 cases io h
 exact uC ⟨.inr I, [_], [], ⟨⟨0, _, _, _, _, _, _, _, I5⟩, J⟩, Cm, I2⟩
theorem Ol (g : Bt) (r : Bool) (h : Gq g = some r) : ACalls Aj 156 [.v (.string g)] [] (RB r) := by
 refine Ae Tryz.func156 I I I fun C hC => ?_
 unfold Gq at h
 refine Ah I (Aa fun X M => Ai (fun s ob => ∃ (y : Bool), Gq.J1 g y = some r ∧ s = [(21, .v (.bool y))] ∧ ob = []) [(0, _)] J1 ?_ ?_)
 refine tV (Af 4 I ?_)
 rcases bt (decide ((g.size : Int) < 1)) with i | i
 have h := Bu i h
 exact Ad 7 I i (Af 14 I (tW (lg ⟨true, h, I2⟩ [])))
 have h := Bv i h
 refine Ad 7 I i ?_
 rcases bt (decide ((g.size : Int) > 12)) with j | j
 have h := Bu j h
 exact Af 5 I (Ad 12 I j (Af 9 I (tW (lg ⟨true, h, I2⟩ []))))
 have h := Bv j h
 obtain ⟨f, N, h⟩ := Ac h
 obtain ⟨D, E, F⟩ := L9 N
 refine Af 5 I (Ad 12 I j (Af 1 I (Cf I I I (uH (Db (m := f.1) I I I I D E F) I (Cf I I I (uH (uO (c := decide (f.2 < 97)) I I I) I (Af 2 I ?_)))))))
 rcases bt (decide (f.2 < 97)) with k | k
 have h := Bu k h
 exact Ad 17 I k (Af 4 I (tW (lg ⟨true, h, I2⟩ [])))
 have h := Bv k h
 exact Ad 17 I k (Af 1 I (Cf I I I (uH (Db (m := f.1) I I I I D E F) I (Cf I I I (uH (uO (c := decide (f.2 > 122)) I I I) I (Af 1 I (tW (lg ⟨decide (f.2 > 122), h, I2⟩ []))))))))
 rintro s ob ⟨y, h, rfl, rfl⟩
 refine Ar h I ?_ ?_
 intro O h
 refine Ah I ?_
 cases io h
 exact uC pr
 intro O h
 refine tZ ?_
 subst M
 refine Ai (fun s ob => ∃ (G : Unit), Gq.J2 G = some r ∧ s = [] ∧ ob = []) [] J ?_ ?_
 refine Ah I (uA ?_)
 obtain ⟨Y, P, H⟩ := Ac h
 refine Cs P [(0, _)] J1 (fun (A : Int) s ob => s = [(3, .V A)] ∧ ob = []) ⟨I, I⟩ ⟨I, J⟩ ⟨[], I, by decide⟩ ?_
 rintro A Q s ob ⟨rfl, rfl⟩ h K
 refine Aa fun Z R => Ah I (Ar h I ?_ ?_)
 intro S h
 refine tZ ?_
 subst R
 refine uB (uA (Ai (fun s ob => ∃ (B : Bool), Gq.J4 A B = some Q ∧ s = [(55, .v (.bool B))] ∧ ob = []) [(0, _), (3, _)] J2 ?_ ?_))
 obtain ⟨a, U, h⟩ := Ac h
 obtain ⟨b, d, e⟩ := L9 U
 refine tV (Af 2 I (uH (Db (m := a.1) I I I I b d e) I (uH (uO (c := decide (a.2 < 97)) I I I) I (Af 1 I ?_))))
 rcases bt (decide (a.2 < 97)) with l | l
 have h := Bu l h
 refine Ad 32 I l (Af 8 I (Cf I I I (uH (Db (m := a.1) I I I I b d e) I (Cf I I I (uH (uO (c := decide (a.2 < 48)) I I I) I (Af 1 I ?_))))))
 rcases bt (decide (a.2 < 48)) with n | n
 have h := Bu n h
 exact Ad 43 I n (Af 9 I (Cf I I I (uH (Db (m := a.1) I I I I b d e) I (Cf I I I (uH (uO (c := (a.2 != 45)) I I I) I (Af 1 I (tW (lg ⟨(a.2 != 45), h, I2⟩ []))))))))
 have h := Bv n h
 refine Ad 43 I n (Af 2 I (Cf I I I (uH (Db (m := a.1) I I I I b d e) I (Cf I I I (uH (uO (c := decide (a.2 > 57)) I I I) I (Af 3 I ?_))))))
 rcases bt (decide (a.2 > 57)) with o | o
 have h := Bu o h
 exact Ad 50 I o (Af 2 I (Cf I I I (uH (Db (m := a.1) I I I I b d e) I (Cf I I I (uH (uO (c := (a.2 != 45)) I I I) I (Af 1 I (tW (lg ⟨(a.2 != 45), h, I2⟩ []))))))))
 have h := Bv o h
 exact Ad 50 I o (Af 5 I (tW (lg ⟨false, h, I2⟩ [])))
 have h := Bv l h
 refine Ad 32 I l (Af 2 I (Cf I I I (uH (Db (m := a.1) I I I I b d e) I (Cf I I I (uH (uO (c := decide (a.2 > 122)) I I I) I (Af 2 I ?_))))))
 rcases bt (decide (a.2 > 122)) with t | t
 have h := Bu t h
 refine Ad 38 I t (Af 2 I (Cf I I I (uH (Db (m := a.1) I I I I b d e) I (Cf I I I (uH (uO (c := decide (a.2 < 48)) I I I) I (Af 1 I ?_))))))
 rcases bt (decide (a.2 < 48)) with u | u
 have h := Bu u h
 exact Ad 43 I u (Af 9 I (Cf I I I (uH (Db (m := a.1) I I I I b d e) I (Cf I I I (uH (uO (c := (a.2 != 45)) I I I) I (Af 1 I (tW (lg ⟨(a.2 != 45), h, I2⟩ []))))))))
 have h := Bv u h
 refine Ad 43 I u (Af 2 I (Cf I I I (uH (Db (m := a.1) I I I I b d e) I (Cf I I I (uH (uO (c := decide (a.2 > 57)) I I I) I (Af 3 I ?_))))))
 rcases bt (decide (a.2 > 57)) with w | w
 have h := Bu w h
 exact Ad 50 I w (Af 2 I (Cf I I I (uH (Db (m := a.1) I I I I b d e) I (Cf I I I (uH (uO (c := (a.2 != 45)) I I I) I (Af 1 I (tW (lg ⟨(a.2 != 45), h, I2⟩ []))))))))
 have h := Bv w h
 exact Ad 50 I w (Af 5 I (tW (lg ⟨false, h, I2⟩ [])))
 have h := Bv t h
 exact Ad 38 I t (Af 5 I (By I I dS (By I I dS (By I I dS (By I I dS (Af 8 I (tW (lg ⟨false, h, I2⟩ []))))))))
 rintro s ob ⟨B, h, rfl, rfl⟩
 refine Ar h I ?_ ?_
 intro W h
 refine Ah I ?_
 obtain rfl := K _ (oi h).symm
 have h := H
 have h := C8 h
 cases io h
 exact uC pr
 intro W h
 refine tZ (tV (Af 3 I ?_))
 cases io h
 exact tW ⟨_, _, _, I, I2, J2, [], I, by decide⟩
 intro S h
 obtain rfl := K _ (oi h).symm
 have h := H
 have h := C2 h
 exact uE (lg ⟨(), h, I2⟩ [])
 rintro s ob ⟨G, h, rfl, rfl⟩
 unfold Gq.J2 at h
 refine Ah I ?_
 cases io h
 exact uC pr
theorem jT (a : List Bt) (r : Bool) (h : Nx a = some r) : ACalls Aj 157 [Q1 a] [] (RB r) := by
 refine Ae Tryz.func157 I I I fun C hC => ?_
 unfold Nx at h
 refine Ah I (Ai (fun s ob => ∃ (e : Unit), Nx.J1 e = some r ∧ s = [] ∧ ob = []) [] J ?_ ?_)
 refine Bh [.l 1 (a.length : Int)] I ⟨Ax, J⟩ (uA (B0 5 I fun t => ?_))
 obtain ⟨O, u, f⟩ := Ac h
 refine Bx u [(0, _), (6, _)] J2 (fun (b : Nat) (g : Unit) s ob => s = [(7, .V (b : Int))] ∧ ob = []) ⟨I, I⟩ ⟨I, J⟩ ⟨[], I, by decide⟩ ?_ ?_
 rintro b i g w s ob y j ⟨rfl, rfl⟩ h A
 unfold Nx.B2 at h
 have B := Co j
 refine Ah I (Aa fun P D => Bp I B (tZ ?_))
 subst D
 refine Ai (fun s ob => ∃ (m : Unit), Nx.J3 m = some w ∧ s = [] ∧ ob = []) [(0, _), (6, _), (7, _)] J3 ?_ ?_
 refine uA (Ah I (Ah I (uA ?_)))
 obtain ⟨Q, E, n⟩ := Ac h
 refine Cs E [(0, _), (3, _), (6, _), (7, _)] J4 (fun (o : Int) s ob => s = [(4, .V o)] ∧ ob = []) ⟨I, I⟩ ⟨I, J⟩ ⟨[], I, by decide⟩ ?_
 rintro o R s ob ⟨rfl, rfl⟩ h p
 refine Aa fun S F => Ah I (Ar h I ?_ ?_)
 intro G h
 refine tZ ?_
 subst F
 refine uB (uA (uB ?_))
 obtain ⟨d, ⟨H, K⟩, h⟩ := A6 h
 refine Bz (pd 9 0 []) [] [] I (Ca 8 [.x 2 b (rS i), .x 6 d.1 (rS d.2)] I ⟨⟨H, Ag K⟩, ⟨I, Ag y⟩, J⟩ (uM I (Yp.cmpS (c := S0 i d.2) I I I) I (Ap (tW (Ar h I ?_ ?_)))))
 intro M h
 refine Ah I ?_
 obtain rfl := p _ (oi h).symm
 have h := n
 have h := C8 h
 obtain rfl := A _ (oi h).symm
 have h := f
 have h := C2 h
 cases io h
 exact uC pr
 intro M h
 refine tZ (tV (Af 3 I ?_))
 cases io h
 exact tW ⟨_, _, _, I, I2, J5, [], I, by decide⟩
 intro G h
 obtain rfl := p _ (oi h).symm
 have h := n
 have h := C2 h
 exact uE (lg ⟨(), h, I2⟩ [])
 rintro s ob ⟨m, h, rfl, rfl⟩
 unfold Nx.J3 at h
 refine tV (An 2 [.k 0 (b + 1 : Nat)] I ⟨A0 j t, J⟩ ?_)
 cases io h
 exact tW ⟨_, _, _, I, I2, J3, [], I, by decide⟩
 rintro g s ob ⟨rfl, rfl⟩ he
 subst he
 have h := C8 f
 have N := Cp a.length
 exact Ah I (Aa fun U W => Br I N (uE (lg ⟨(), h, I2⟩ [])))
 rintro s ob ⟨e, h, rfl, rfl⟩
 unfold Nx.J1 at h
 refine Ah I ?_
 cases io h
 exact uC pr
theorem iL (a : Sg) (r : Bool) (h : Np a = some r) : ACalls Aj 158 [.agg (Ak a)] [] (RB r) := by
 refine Ae Tryz.func158 I I I fun C hC => ?_
 unfold Np at h
 refine Aa fun y1 K => tV (tX [] I (Bo (Ak a) 7 fun u => Af 1 I (tW ?_)))
 subst K
 refine Aa fun y3 M => Ai (fun s ob => ∃ (w : Bool), Np.J1 a w = some r ∧ s = [(49, .v (.bool w))] ∧ ob = [O5 u [Ak a]]) [(1, _)] J1 ?_ ?_
 refine Bz (pd 45 0 [8, 14, 20]) [0] [_] I (Ca 6 [.o 1 0, .o 3 0] I J2 ?_)
 rcases bt ((a.From == a.To)) with c | c
 have h := Bu c h
 exact A5 10 I c (Bf 39 I (Ap (tW (lg ⟨true, h, I2⟩ [0]))))
 have h := Bv c h
 refine A5 10 I c (Ca 2 [.o 1 0] I J1 (Ie I (Di a.Capacity 1 1000000 _ I) (Bf 3 I ?_)))
 rcases bt ((!(Cn a.Capacity 1 1000000))) with d | d
 have h := Bu d h
 exact A5 16 I d (Bf 33 I (Ap (tW (lg ⟨true, h, I2⟩ [0]))))
 have h := Bv d h
 refine A5 16 I d (Ca 2 [.o 1 0] I J1 (Ie I (Di a.Resist 0 1000 _ I) (Bf 3 I ?_)))
 rcases bt ((!(Cn a.Resist 0 1000))) with e | e
 have h := Bu e h
 exact A5 22 I e (Bf 27 I (Ap (tW (lg ⟨true, h, I2⟩ [0]))))
 have h := Bv e h
 refine A5 22 I e (Ca 2 [.o 1 0] I J1 (Ie I (Di a.Wave 0 100000 _ I) (Bf 3 I ?_)))
 rcases bt ((!(Cn a.Wave 0 100000))) with f | f
 have h := Bu f h
 exact A5 28 I f (Bf 21 I (Ap (tW (lg ⟨true, h, I2⟩ [0]))))
 have h := Bv f h
 obtain ⟨y, ⟨N, O⟩, h⟩ := A6 h
 refine A5 28 I f (Ca 8 [.o 1 0, .x 2 y.1 (Bj y.2)] I ⟨⟨N, Ag O⟩, I, J⟩ ?_)
 rcases bt ((y.2.At != 0)) with g | g
 have h := Bu g h
 exact A5 36 I g (Bf 13 I (Ap (tW (lg ⟨true, h, I2⟩ [0]))))
 have h := Bv g h
 obtain ⟨A, ⟨P, Q⟩, h⟩ := A6 h
 exact A5 36 I g (Ca 13 [.o 1 0, .o 3 0, .l 4 (a.Points.length : Int), .x 6 A.1 (Bj A.2), .o 10 0] I ⟨I, ⟨P, Ag Q⟩, Ax, I, I, J⟩ (Ap (tW (lg ⟨(A.2.At != a.Capacity), h, I2⟩ [0]))))
 rintro s ob ⟨w, h, rfl, rfl⟩
 refine Ar h I ?_ ?_
 intro R h
 refine Ah I (uD g0 ?_)
 cases io h
 exact uC pr
 intro R h
 refine tZ ?_
 subst M
 refine Ai (fun s ob => ∃ (E : Unit), Np.J2 E = some r ∧ s = [] ∧ ob = []) [] J ?_ ?_
 refine Bh [.o 1 0, .l 2 (a.Points.length : Int)] I ⟨Ax, I, J⟩ (uA (B0 51 I fun S => ?_))
 obtain ⟨ai, U, F⟩ := Ac h
 refine Bx U [(1, _), (51, _), (52, _)] J3 (fun (i : Nat) (G : Unit) s ob => s = [(53, .V (i : Int))] ∧ ob = [O5 u [Ak a]]) ⟨I, I⟩ ⟨I, J⟩ ⟨[0], I, by decide⟩ ?_ ?_
 rintro i b G W s ob X H ⟨rfl, rfl⟩ h Y
 unfold Np.B3 at h
 have Z := Co H
 refine Ah I (Aa fun aj aa => Bp I Z (tZ ?_))
 subst aa
 refine uB (uA (Aa fun ak ab => tV (An 3 [.x 1 i (Bj b)] I ⟨⟨I, Ag X⟩, J⟩ (tX [] I (uF W1 3 fun al => Af 1 I (tX [1] I (A3 1 0 0 [Bj b] I (tW ?_))))))))
 subst ab
 refine Ai (fun s ob => ∃ (B : Bool), Np.J4 B = some W ∧ s = [(83, .v (.bool B))] ∧ ob = [O5 u [Ak a]]) [(1, _), (51, _), (52, _), (53, _)] J4 ?_ ?_
 rcases bt (decide ((i : Int) > 0)) with j | j
 have h := Bu j h
 obtain ⟨D, ⟨ac, ad⟩, h⟩ := A6 h
 refine Bz (pd 26 0 [17, 23]) [1, 0] [_, _] I (Bf 3 I (A5 60 I j (Ca 12 [.o 1 0, .o 3 1, .x 6 D.1 (Bj D.2)] I ⟨⟨ac, Ag ad⟩, I, I, J⟩ ?_)))
 rcases bt (decide (b.At ≤ D.2.At)) with n | n
 have h := Bu n h
 exact A5 72 I n (Bf 11 I (Ap (tW (lg ⟨true, h, I2⟩ [0]))))
 have h := Bv n h
 refine A5 72 I n (Ca 2 [.o 1 0] I J1 (Ie I (Di b.Height (-500) 5000 _ I) (Bf 3 I ?_)))
 rcases bt ((!(Cn b.Height (-500) 5000))) with p | p
 have h := Bu p h
 exact A5 78 I p (Bf 5 I (Ap (tW (lg ⟨true, h, I2⟩ [0]))))
 have h := Bv p h
 exact A5 78 I p (Ca 2 [.o 1 0] I J1 (Ie I (Di b.Limit 0 100000000 _ I) (Bf 2 I (Ap (tW (lg ⟨(!(Cn b.Limit 0 100000000)), h, I2⟩ [0]))))))
 have h := Bv j h
 refine Bz (pd 26 0 [17, 23]) [1] [_] I (Bf 3 I (A5 60 I j (Ca 14 [.o 13 0] I J1 (Ie I (Di b.Height (-500) 5000 _ I) (Bf 3 I ?_)))))
 rcases bt ((!(Cn b.Height (-500) 5000))) with t | t
 have h := Bu t h
 exact A5 78 I t (Bf 5 I (Ap (tW (lg ⟨true, h, I2⟩ [0]))))
 have h := Bv t h
 exact A5 78 I t (Ca 2 [.o 1 0] I J1 (Ie I (Di b.Limit 0 100000000 _ I) (Bf 2 I (Ap (tW (lg ⟨(!(Cn b.Limit 0 100000000)), h, I2⟩ [0]))))))
 rintro s ob ⟨B, h, rfl, rfl⟩
 refine Ar h I ?_ ?_
 intro ae h
 refine Ah I ?_
 obtain rfl := Y _ (oi h).symm
 have h := F
 have h := C2 h
 refine uD g0 ?_
 cases io h
 exact uC pr
 intro ae h
 refine tZ (tV (An 2 [.k 0 (i + 1 : Nat)] I ⟨A0 H S, J⟩ ?_))
 cases io h
 exact tW ⟨_, _, _, I, I2, J4, [0], I, by decide⟩
 rintro G s ob ⟨rfl, rfl⟩ he
 subst he
 have h := C8 F
 have af := Cp a.Points.length
 exact Ah I (Aa fun am an => Br I af (uE (lg ⟨(), h, I2⟩ [])))
 rintro s ob ⟨E, h, rfl, rfl⟩
 unfold Np.J2 at h
 refine Ah I ?_
 cases io h
 exact uC pr
theorem Jx (a : Nw) (r : Int) (h : Gr a = some r) : ACalls Aj 99 [.agg (Ab a)] [] (RV (.V r)) := by
 refine Ae Tryz.func99 I I I fun C hC => ?_
 unfold Gr at h
 refine Aa fun y1 bn => tV (tX [] I (Bo (Ab a) 6 fun b => Af 1 I (tW ?_)))
 subst bn
 refine Aa fun y3 bo => Eb 49 ((!(Cn (a.Nodes.length : Int) 1 24)) || (decide ((a.Segments.length : Int) > 32) || (decide ((a.Ports.length : Int) > 24) || decide ((a.Stations.length : Int) > 12)))) ?_ ?_
 refine tV (An 3 [.o 1 0, .l 2 (a.Nodes.length : Int)] I ⟨Ax, I, J⟩ (Cd (Di (a.Nodes.length : Int) 1 24 _ I) (Af 2 I ?_)))
 rcases bt ((!(Cn (a.Nodes.length : Int) 1 24))) with g | g
 exact Ad 32 I g (Af 17 I (tW (jf (by simp only [g, bz]) I I I2)))
 refine Ad 32 I g (An 6 [.o 1 0, .l 2 (a.Segments.length : Int)] I ⟨Ax, I, J⟩ ?_)
 rcases bt (decide ((a.Segments.length : Int) > 32)) with j | j
 exact Ad 38 I j (Af 11 I (tW (jf (by simp only [g, j, bz]) I I I2)))
 refine Ad 38 I j (An 6 [.o 1 0, .l 2 (a.Ports.length : Int)] I ⟨Ax, I, J⟩ ?_)
 rcases bt (decide ((a.Ports.length : Int) > 24)) with t | t
 exact Ad 44 I t (Af 5 I (tW (jf (by simp only [g, j, t, bz]) I I I2)))
 exact Ad 44 I t (An 5 [.o 1 0, .l 2 (a.Stations.length : Int)] I ⟨Ax, I, J⟩ (tW (jf (by simp only [g, j, t, bz]) I I I2)))
 refine Ar h I ?_ ?_
 intro bp h
 refine Ah I (uD g0 ?_)
 cases io h
 exact uC pr
 intro bp h
 refine tZ ?_
 subst bo
 refine Ai (fun s ob => ∃ (Z : Unit), Gr.J1 a Z = some r ∧ s = [] ∧ ob = [O0 b [Ab a]]) [(1, _)] J1 ?_ ?_
 refine Bh [.o 1 0, .l 2 (a.Segments.length : Int)] I ⟨Ax, I, J⟩ (uA (B0 51 I fun bq => ?_))
 obtain ⟨e4, br, aa⟩ := Ac h
 refine Bx br [(1, _), (51, _), (52, _)] J3 (fun (B : Nat) (ab : Unit) s ob => s = [(53, .V (B : Int))] ∧ ob = [O0 b [Ab a]]) ⟨I, I⟩ ⟨I, J⟩ ⟨[0], I, by decide⟩ ?_ ?_
 rintro B D ab e5 s ob bs ac ⟨rfl, rfl⟩ h bu
 have bv := Co ac
 refine Ah I (Aa fun e6 bw => Bp I bv (tZ ?_))
 subst bw
 refine uB (uA (uB (tV (An 2 [.x 0 B (Ak D)] I ⟨⟨I, Ag bs⟩, J⟩ (tX [] I (uF W2 7 fun e7 => tX [1] I (A3 1 0 0 [Ak D] I (tW (uB (tV (An 3 [.o 1 1, .l 2 (D.Points.length : Int)] I ⟨Ax, I, J⟩ (Cd (Di (D.Points.length : Int) 2 8 _ I) (Af 1 I ?_)))))))))))))
 refine tW (Ar h I ?_ ?_)
 intro bx h
 refine Ah I ?_
 obtain rfl := bu _ (oi h).symm
 have h := aa
 have h := C2 h
 refine uD g0 ?_
 cases io h
 exact uC pr
 intro bx h
 refine tZ (tV (An 2 [.k 0 (B + 1 : Nat)] I ⟨A0 ac bq, J⟩ ?_))
 cases io h
 exact tW ⟨_, _, _, I, I2, J4, [0], I, by decide⟩
 rintro ab s ob ⟨rfl, rfl⟩ he
 subst he
 have h := C8 aa
 have b0 := Cp a.Segments.length
 exact Ah I (Aa fun e8 e9 => Br I b0 (uE (lg ⟨(), h, I2⟩ [0])))
 rintro s ob ⟨Z, h, rfl, rfl⟩
 refine Aa fun fa b1 => ?_
 obtain ⟨f, b3, h⟩ := Ac h
 refine tV (An 1 [.o 0 0] I J1 (tX [] I (Ck I I I (iN _ _ b3) dS ?_)))
 rintro _ _ ⟨rfl, rfl⟩
 refine tX [] I (uF W4 4 fun E => tX [1] I (uN 1 0 0 (es' := [f.l.map (cL 1 rS)]) I I I I I I I (by simp [Arr.h, Bk]) (by simp [Arr.h, Bk]) I (congrArg (fun r => [r]) (Iw (by simp [Arr.h, Bk]))) (tW ?_)))
 subst b1
 refine Ai (fun s ob => ∃ (ad : Unit), Gr.J2 a f ad = some r ∧ s = [] ∧ ob = [O0 b [Ab a], O7 E [f.l.map (cL 1 rS)]]) [(1, _), (5, _)] J2 ?_ ?_
 refine Aa fun fb b4 => tV (uJ (C4 1 0 0 I I I I I (y := .agg (f.l.map (cL 1 rS))) (L8 I (by simp [Arr.h, Bk]))) I (Af 1 I (tW ?_)))
 subst b4
 refine uA ?_
 have b5 : (4 : Nat) ≤ 9223372036854775806 := by decide
 obtain ⟨fc, b6, ae⟩ := Ac h
 refine Fi b6 [(1, _), (5, _), (65, _)] J3 (fun (F : Nat) (af : Unit) s ob => s = [(66, .V (F : Int))] ∧ ob = [O0 b [Ab a], O7 E [f.l.map (cL 1 rS)]]) ⟨I, I⟩ ⟨I, J⟩ ⟨[0, 1], I, by decide⟩ ?_ ?_
 rintro F af b7 s ob b8 ⟨rfl, rfl⟩ h b9
 unfold Gr.B21 at h
 have ca : decide ((F : Int) < 4) = true := decide_eq_true (by omega)
 refine Ah I (Aa fun fd cb => Bp I ca (tZ ?_))
 subst cb
 refine Ai (fun s ob => ∃ (ag : Unit), Gr.J22 ag = some b7 ∧ s = [] ∧ ob = [O0 b [Ab a], O7 E [f.l.map (cL 1 rS)]]) [(1, _), (5, _), (65, _), (66, _)] J4 ?_ ?_
 refine uA (Aa fun fe cc => ?_)
 obtain ⟨U, ⟨cd, ce⟩, h⟩ := A6 h
 refine tV (uH (G6 (m := U.1) I I I I I I I cd ce (hlen := Arr.h _)) I (Af 1 I (tW ?_)))
 subst cc
 refine Bh [.l 1 (U.2.length : Int)] I ⟨Ax, J⟩ (uA (B0 69 I fun cf => ?_))
 obtain ⟨ff, cg, ah⟩ := Ac h
 refine Bx cg [(1, _), (5, _), (65, _), (66, _), (69, _), (70, _)] J6 (fun (G : Nat) (ai : Unit) s ob => s = [(71, .V (G : Int))] ∧ ob = [O0 b [Ab a], O7 E [f.l.map (cL 1 rS)]]) ⟨I, I⟩ ⟨I, J⟩ ⟨[0, 1], I, by decide⟩ ?_ ?_
 rintro G ci ai fg s ob cj aj ⟨rfl, rfl⟩ h ck
 have cl := Co aj
 refine Ah I (Aa fun fh cm => Bp I cl (tZ ?_))
 subst cm
 refine uB (uA (Bh [.x 0 G (rS ci)] I ⟨⟨I, Ag cj⟩, J⟩ (uB ?_)))
 obtain ⟨fi, cn, h⟩ := Ac h
 refine tV (Af 1 I (Cd (Ol _ _ cn) (Af 1 I (tW (Ar h I ?_ ?_)))))
 intro co h
 refine Ah I ?_
 obtain rfl := ck _ (oi h).symm
 have h := ah
 have h := C2 h
 obtain rfl := b9 _ (oi h).symm
 have h := ae
 have h := C2 h
 refine uD g0 ?_
 cases io h
 exact uC pr
 intro co h
 refine tZ (tV (An 2 [.k 0 (G + 1 : Nat)] I ⟨A0 aj cf, J⟩ ?_))
 cases io h
 exact tW ⟨_, _, _, I, I2, J7, [0, 1], I, by decide⟩
 rintro ai s ob ⟨rfl, rfl⟩ he
 subst he
 have h := C8 ah
 have cp := Cp U.2.length
 exact Ah I (Aa fun fj fk => Br I cp (uE (lg ⟨(), h, I2⟩ [0, 1])))
 rintro s ob ⟨ag, h, rfl, rfl⟩
 unfold Gr.J22 at h
 refine tV (An 2 [.k 0 (F + 1 : Nat)] I ⟨A0 b8 b5, J⟩ ?_)
 cases io h
 exact tW ⟨_, _, _, I, I2, J4, [0, 1], I, by decide⟩
 rintro af s ob ⟨rfl, rfl⟩ he
 subst he
 have h := C8 ae
 have cq : decide (((4 : Nat) : Int) < 4) = false := by simp
 exact Ah I (Aa fun fl fm => Br I cq (uE (lg ⟨(), h, I2⟩ [0, 1])))
 rintro s ob ⟨ad, h, rfl, rfl⟩
 unfold Gr.J2 at h
 refine Ai (fun s ob => ∃ (ak : Unit), Gr.J3 a ak = some r ∧ s = [] ∧ ob = [O0 b [Ab a]]) [(1, _)] J1 ?_ ?_
 refine Aa fun fn cr => tV (uJ (C4 1 0 0 I I I I I (y := .agg (f.l.map (cL 1 rS))) (L8 I (by simp [Arr.h, Bk]))) I (Af 1 I (tW ?_)))
 subst cr
 refine uA ?_
 have ct : (4 : Nat) ≤ 9223372036854775806 := by decide
 obtain ⟨fo, cu, al⟩ := Ac h
 refine Fi cu [(1, _), (80, _)] J2 (fun (H : Nat) (am : Unit) s ob => s = [(81, .V (H : Int))] ∧ ob = [O0 b [Ab a]]) ⟨I, I⟩ ⟨I, J⟩ ⟨[0], I, by decide⟩ ?_ ?_
 rintro H am fp s ob cv ⟨rfl, rfl⟩ h cw
 have cx : decide ((H : Int) < 4) = true := decide_eq_true (by omega)
 refine Ah I (Aa fun fq cy => Bp I cx (tZ ?_))
 subst cy
 refine uB (uA (uB ?_))
 obtain ⟨cz, ⟨c0, c1⟩, h⟩ := A6 h
 refine tV (uH (G6 (m := cz.1) I I I I I I I c0 c1 (hlen := Arr.h _)) I (Af 1 I (tW (uB ?_))))
 obtain ⟨fr, c2, h⟩ := Ac h
 refine tV (Af 1 I (Cd (jT _ _ c2) (tW (Ar h I ?_ ?_))))
 intro c3 h
 refine Ah I ?_
 obtain rfl := cw _ (oi h).symm
 have h := al
 have h := C2 h
 refine uD g0 ?_
 cases io h
 exact uC pr
 intro c3 h
 refine tZ (tV (An 2 [.k 0 (H + 1 : Nat)] I ⟨A0 cv ct, J⟩ ?_))
 cases io h
 exact tW ⟨_, _, _, I, I2, J3, [0], I, by decide⟩
 rintro am s ob ⟨rfl, rfl⟩ he
 subst he
 have h := C8 al
 have c4 : decide (((4 : Nat) : Int) < 4) = false := by simp
 exact Ah I (Aa fun fs ft => Br I c4 (uE (lg ⟨(), h, I2⟩ [0])))
 rintro s ob ⟨ak, h, rfl, rfl⟩
 unfold Gr.J3 at h
 refine Ai (fun s ob => ∃ (an : Unit), Gr.J4 a an = some r ∧ s = [] ∧ ob = [O0 b [Ab a]]) [(1, _)] J1 ?_ ?_
 refine Bh [.o 1 0, .l 2 (a.Stations.length : Int)] I ⟨Ax, I, J⟩ (uA (B0 88 I fun c5 => ?_))
 obtain ⟨fu, c6, ao⟩ := Ac h
 refine Bx c6 [(1, _), (89, _)] J2 (fun (K : Nat) (ap : Unit) s ob => s = [(90, .V (K : Int))] ∧ ob = [O0 b [Ab a]]) ⟨I, I⟩ ⟨I, J⟩ ⟨[0], I, by decide⟩ ?_ ?_
 rintro K c7 ap c8 s ob c9 aq ⟨rfl, rfl⟩ h da
 unfold Gr.B17 at h
 have db := Co aq
 refine Ah I (Aa fun fv dc => Bp I db (tZ ?_))
 subst dc
 refine Ai (fun s ob => ∃ (ar : Unit), Gr.J18 ar = some c8 ∧ s = [] ∧ ob = [O0 b [Ab a]]) [(1, _), (89, _), (90, _)] J3 ?_ ?_
 refine uA (Ah I (Ah I (uA ?_)))
 obtain ⟨fw, dd, au⟩ := Ac h
 refine Cs dd [(1, _), (12, _), (89, _), (90, _)] J4 (fun (av : Int) s ob => s = [(13, .V av)] ∧ ob = [O0 b [Ab a]]) ⟨I, I⟩ ⟨I, J⟩ ⟨[0], I, by decide⟩ ?_
 rintro av fx s ob ⟨rfl, rfl⟩ h aw
 refine Aa fun fy de => Ah I (Ar h I ?_ ?_)
 intro df h
 refine tZ ?_
 subst de
 refine uB (uA (uB ?_))
 obtain ⟨ax, ⟨dg, dh⟩, h⟩ := A6 h
 refine In (pd 13 0 []) [0] [_] [.o 1 0, .x 3 K (Ba c7), .o 7 0, .x 9 ax.1 (Ba ax.2)] I I ⟨⟨dg, Ag dh⟩, I, ⟨I, Ag c9⟩, I, J⟩ (Ar h I ?_ ?_)
 intro di h
 refine Ah I ?_
 obtain rfl := aw _ (oi h).symm
 have h := au
 have h := C8 h
 obtain rfl := da _ (oi h).symm
 have h := ao
 have h := C2 h
 refine uD g0 ?_
 cases io h
 exact uC pr
 intro di h
 refine tZ (tV (Af 3 I ?_))
 cases io h
 exact tW ⟨_, _, _, I, I2, J5, [0], I, by decide⟩
 intro df h
 obtain rfl := aw _ (oi h).symm
 have h := au
 have h := C2 h
 exact uE (lg ⟨(), h, I2⟩ [0])
 rintro s ob ⟨ar, h, rfl, rfl⟩
 unfold Gr.J18 at h
 refine tV (An 2 [.k 0 (K + 1 : Nat)] I ⟨A0 aq c5, J⟩ ?_)
 cases io h
 exact tW ⟨_, _, _, I, I2, J3, [0], I, by decide⟩
 rintro ap s ob ⟨rfl, rfl⟩ he
 subst he
 have h := C8 ao
 have dj := Cp a.Stations.length
 exact Ah I (Aa fun fz f0 => Br I dj (uE (lg ⟨(), h, I2⟩ [0])))
 rintro s ob ⟨an, h, rfl, rfl⟩
 unfold Gr.J4 at h
 refine Bh [.o 1 0, .l 2 (a.Nodes.length : Int)] I ⟨Ax, I, J⟩ (Ai (fun s ob => ∃ (ay : Unit), Gr.J5 a ay = some r ∧ s = [] ∧ ob = [O0 b [Ab a]]) [(1, _), (14, _)] J2 ?_ ?_)
 refine Bh [.o 1 0, .l 2 (a.Segments.length : Int)] I ⟨Ax, I, J⟩ (uA (B0 117 I fun dk => ?_))
 obtain ⟨f1, dl, az⟩ := Ac h
 refine Bx dl [(1, _), (14, _), (117, _), (118, _)] J4 (fun (M : Nat) (a0 : Unit) s ob => s = [(119, .V (M : Int))] ∧ ob = [O0 b [Ab a]]) ⟨I, I⟩ ⟨I, J⟩ ⟨[0], I, by decide⟩ ?_ ?_
 rintro M i a0 f2 s ob dm a1 ⟨rfl, rfl⟩ h dn
 unfold Gr.B16 at h
 have dp := Co a1
 refine Ah I (Aa fun f3 dq => Bp I dp (tZ ?_))
 subst dq
 refine uB (uA (Aa fun f4 dr => tV (An 2 [.x 0 M (Ak i)] I ⟨⟨I, Ag dm⟩, J⟩ (tX [] I (uF W2 7 fun f5 => tX [1] I (A3 1 0 0 [Ak i] I (tW ?_)))))))
 subst dr
 refine Eb 134 ((!(Cn i.From 0 (wr ((a.Nodes.length : Int) - 1)))) || (!(Cn i.To 0 (wr ((a.Nodes.length : Int) - 1))))) ?_ ?_
 refine tV (An 3 [.o 1 1] I J1 (Cd (Di i.From 0 (wr ((a.Nodes.length : Int) - 1)) _ I) (Af 2 I ?_)))
 rcases bt ((!(Cn i.From 0 (wr ((a.Nodes.length : Int) - 1))))) with u | u
 exact Ad 128 I u (Af 6 I (tW (jf (by simp only [u, bz]) I I I2)))
 exact Ad 128 I u (An 3 [.o 1 1] I J1 (Cf I I I (Cd (Di i.To 0 (wr ((a.Nodes.length : Int) - 1)) _ I) (Af 2 I (tW (jf (by simp only [u, bz]) I I I2))))))
 refine Ar h I ?_ ?_
 intro ds h
 refine Ah I ?_
 obtain rfl := dn _ (oi h).symm
 have h := az
 have h := C2 h
 refine uD g0 ?_
 cases io h
 exact uC pr
 intro ds h
 refine tZ (tV (An 2 [.k 0 (M + 1 : Nat)] I ⟨A0 a1 dk, J⟩ ?_))
 cases io h
 exact tW ⟨_, _, _, I, I2, J5, [0], I, by decide⟩
 rintro a0 s ob ⟨rfl, rfl⟩ he
 subst he
 have h := C8 az
 have du := Cp a.Segments.length
 exact Ah I (Aa fun f6 f7 => Br I du (uE (lg ⟨(), h, I2⟩ [0])))
 rintro s ob ⟨ay, h, rfl, rfl⟩
 unfold Gr.J5 at h
 refine Ai (fun s ob => ∃ (a2 : Unit), Gr.J6 a a2 = some r ∧ s = [] ∧ ob = [O0 b [Ab a]]) [(1, _), (14, _)] J2 ?_ ?_
 refine Bh [.o 1 0, .l 2 (a.Ports.length : Int)] I ⟨Ax, I, J⟩ (uA (B0 137 I fun dv => ?_))
 obtain ⟨f8, dw, a3⟩ := Ac h
 refine Bx dw [(1, _), (14, _), (137, _), (138, _)] J4 (fun (O : Nat) (a4 : Unit) s ob => s = [(139, .V (O : Int))] ∧ ob = [O0 b [Ab a]]) ⟨I, I⟩ ⟨I, J⟩ ⟨[0], I, by decide⟩ ?_ ?_
 rintro O W a4 f9 s ob dx a5 ⟨rfl, rfl⟩ h dy
 have dz := Co a5
 refine Ah I (Aa fun ga d0 => Bp I dz (tZ ?_))
 subst d0
 refine uB (uA (uB (tV (An 2 [.x 0 O (Cc W)] I ⟨⟨I, Ag dx⟩, J⟩ (tX [] I (uF W6 3 fun gb => tX [1] I (A3 1 0 0 [Cc W] I (tW (uB (tV (An 3 [.o 1 1] I J1 (Cd (Di W.Node 0 (wr ((a.Nodes.length : Int) - 1)) _ I) (Af 1 I ?_)))))))))))))
 refine tW (Ar h I ?_ ?_)
 intro d1 h
 refine Ah I ?_
 obtain rfl := dy _ (oi h).symm
 have h := a3
 have h := C2 h
 refine uD g0 ?_
 cases io h
 exact uC pr
 intro d1 h
 refine tZ (tV (An 2 [.k 0 (O + 1 : Nat)] I ⟨A0 a5 dv, J⟩ ?_))
 cases io h
 exact tW ⟨_, _, _, I, I2, J5, [0], I, by decide⟩
 rintro a4 s ob ⟨rfl, rfl⟩ he
 subst he
 have h := C8 a3
 have d2 := Cp a.Ports.length
 exact Ah I (Aa fun gc gd => Br I d2 (uE (lg ⟨(), h, I2⟩ [0])))
 rintro s ob ⟨a2, h, rfl, rfl⟩
 unfold Gr.J6 at h
 refine Ai (fun s ob => ∃ (a6 : Unit), Gr.J7 a a6 = some r ∧ s = [] ∧ ob = [O0 b [Ab a]]) [(1, _)] J1 ?_ ?_
 refine Bh [.o 1 0, .l 2 (a.Stations.length : Int)] I ⟨Ax, I, J⟩ (uA (B0 150 I fun d3 => ?_))
 obtain ⟨ge, d4, a7⟩ := Ac h
 refine Bx d4 [(1, _), (14, _), (150, _), (151, _)] J4 (fun (P : Nat) (a8 : Unit) s ob => s = [(152, .V (P : Int))] ∧ ob = [O0 b [Ab a]]) ⟨I, I⟩ ⟨I, J⟩ ⟨[0], I, by decide⟩ ?_ ?_
 rintro P X a8 gf s ob d5 a9 ⟨rfl, rfl⟩ h d6
 have d7 := Co a9
 refine Ah I (Aa fun gg d8 => Bp I d7 (tZ ?_))
 subst d8
 refine uB (uA (uB (tV (An 2 [.x 0 P (Ba X)] I ⟨⟨I, Ag d5⟩, J⟩ (tX [] I (uF W5 5 fun gh => tX [1] I (A3 1 0 0 [Ba X] I (tW (uB (tV (An 3 [.o 1 1] I J1 (Cd (Di X.Node 0 (wr ((a.Nodes.length : Int) - 1)) _ I) (Af 1 I ?_)))))))))))))
 refine tW (Ar h I ?_ ?_)
 intro d9 h
 refine Ah I ?_
 obtain rfl := d6 _ (oi h).symm
 have h := a7
 have h := C2 h
 refine uD g0 ?_
 cases io h
 exact uC pr
 intro d9 h
 refine tZ (tV (An 2 [.k 0 (P + 1 : Nat)] I ⟨A0 a9 d3, J⟩ ?_))
 cases io h
 exact tW ⟨_, _, _, I, I2, J5, [0], I, by decide⟩
 rintro a8 s ob ⟨rfl, rfl⟩ he
 subst he
 have h := C8 a7
 have ea := Cp a.Stations.length
 exact Ah I (Aa fun gi gj => Br I ea (uE (lg ⟨(), h, I2⟩ [0])))
 rintro s ob ⟨a6, h, rfl, rfl⟩
 unfold Gr.J7 at h
 refine Ai (fun s ob => ∃ (ba : Unit), Gr.J8 a ba = some r ∧ s = [] ∧ ob = [O0 b [Ab a]]) [(1, _)] J1 ?_ ?_
 refine Bh [.o 1 0, .l 2 (a.Segments.length : Int)] I ⟨Ax, I, J⟩ (uA (B0 163 I fun eb => ?_))
 obtain ⟨gk, ec, bb⟩ := Ac h
 refine Bx ec [(1, _), (163, _), (164, _)] J3 (fun (Q : Nat) (bc : Unit) s ob => s = [(165, .V (Q : Int))] ∧ ob = [O0 b [Ab a]]) ⟨I, I⟩ ⟨I, J⟩ ⟨[0], I, by decide⟩ ?_ ?_
 rintro Q bd bc gl s ob ed be ⟨rfl, rfl⟩ h ee
 have ef := Co be
 refine Ah I (Aa fun gm eg => Bp I ef (tZ ?_))
 subst eg
 refine uB (uA (uB (tV (An 2 [.x 0 Q (Ak bd)] I ⟨⟨I, Ag ed⟩, J⟩ (tX [] I (uF W2 7 fun gn => tX [1] I (A3 1 0 0 [Ak bd] I (tW (uB ?_)))))))))
 obtain ⟨go, eh, h⟩ := Ac h
 refine tV (An 1 [.o 0 1] I J1 (Cd (iL _ _ eh) (Af 1 I (tW (Ar h I ?_ ?_)))))
 intro ei h
 refine Ah I ?_
 obtain rfl := ee _ (oi h).symm
 have h := bb
 have h := C2 h
 refine uD g0 ?_
 cases io h
 exact uC pr
 intro ei h
 refine tZ (tV (An 2 [.k 0 (Q + 1 : Nat)] I ⟨A0 be eb, J⟩ ?_))
 cases io h
 exact tW ⟨_, _, _, I, I2, J4, [0], I, by decide⟩
 rintro bc s ob ⟨rfl, rfl⟩ he
 subst he
 have h := C8 bb
 have ej := Cp a.Segments.length
 exact Ah I (Aa fun gp gq => Br I ej (uE (lg ⟨(), h, I2⟩ [0])))
 rintro s ob ⟨ba, h, rfl, rfl⟩
 unfold Gr.J8 at h
 refine Ai (fun s ob => ∃ (bf : Unit), Gr.J9 a bf = some r ∧ s = [] ∧ ob = [O0 b [Ab a]]) [(1, _)] J1 ?_ ?_
 refine Bh [.o 1 0, .l 2 (a.Ports.length : Int)] I ⟨Ax, I, J⟩ (uA (B0 174 I fun ek => ?_))
 obtain ⟨gr, el, bg⟩ := Ac h
 refine Bx el [(1, _), (174, _), (175, _)] J3 (fun (R : Nat) (bh : Unit) s ob => s = [(176, .V (R : Int))] ∧ ob = [O0 b [Ab a]]) ⟨I, I⟩ ⟨I, J⟩ ⟨[0], I, by decide⟩ ?_ ?_
 rintro R Y bh gs s ob em bi ⟨rfl, rfl⟩ h en
 have eo := Co bi
 refine Ah I (Aa fun gu ep => Bp I eo (tZ ?_))
 subst ep
 refine uB (uA (uB (tV (An 2 [.x 0 R (Cc Y)] I ⟨⟨I, Ag em⟩, J⟩ (tX [] I (uF W6 3 fun gv => tX [1] I (A3 1 0 0 [Cc Y] I (tW (uB (tV (An 2 [.o 1 1] I J1 (Cd (Di Y.Pressure 0 100000000 _ I) (Af 1 I ?_)))))))))))))
 refine tW (Ar h I ?_ ?_)
 intro eq h
 refine Ah I ?_
 obtain rfl := en _ (oi h).symm
 have h := bg
 have h := C2 h
 refine uD g0 ?_
 cases io h
 exact uC pr
 intro eq h
 refine tZ (tV (An 2 [.k 0 (R + 1 : Nat)] I ⟨A0 bi ek, J⟩ ?_))
 cases io h
 exact tW ⟨_, _, _, I, I2, J4, [0], I, by decide⟩
 rintro bh s ob ⟨rfl, rfl⟩ he
 subst he
 have h := C8 bg
 have er := Cp a.Ports.length
 exact Ah I (Aa fun gw gx => Br I er (uE (lg ⟨(), h, I2⟩ [0])))
 rintro s ob ⟨bf, h, rfl, rfl⟩
 unfold Gr.J9 at h
 refine Ai (fun s ob => ∃ (bj : Unit), Gr.J10 a bj = some r ∧ s = [] ∧ ob = [O0 b [Ab a]]) [(1, _)] J1 ?_ ?_
 refine Bh [.o 1 0, .l 2 (a.Stations.length : Int)] I ⟨Ax, I, J⟩ (uA (B0 186 I fun es => ?_))
 obtain ⟨gy, et, bk⟩ := Ac h
 refine Bx et [(1, _), (186, _), (187, _)] J3 (fun (S : Nat) (bl : Unit) s ob => s = [(188, .V (S : Int))] ∧ ob = [O0 b [Ab a]]) ⟨I, I⟩ ⟨I, J⟩ ⟨[0], I, by decide⟩ ?_ ?_
 rintro S e bl gz s ob eu bm ⟨rfl, rfl⟩ h ev
 unfold Gr.B11 at h
 have ew := Co bm
 refine Ah I (Aa fun g1 ex => Bp I ew (tZ ?_))
 subst ex
 refine uB (uA (Aa fun g2 ey => tV (An 2 [.x 0 S (Ba e)] I ⟨⟨I, Ag eu⟩, J⟩ (tX [] I (uF W5 5 fun g3 => tX [1] I (A3 1 0 0 [Ba e] I (tW ?_)))))))
 subst ey
 refine Eb 207 ((!(Cn e.Head 0 100000000)) || ((!(Cn e.Fall 0 100000)) || (!(Cn e.Suction 0 100000000)))) ?_ ?_
 refine tV (An 2 [.o 1 1] I J1 (Cd (Di e.Head 0 100000000 _ I) (Af 2 I ?_)))
 rcases bt ((!(Cn e.Head 0 100000000))) with n | n
 exact Ad 196 I n (Af 11 I (tW (jf (by simp only [n, bz]) I I I2)))
 refine Ad 196 I n (An 2 [.o 1 1] I J1 (Cf I I I (Cd (Di e.Fall 0 100000 _ I) (Af 3 I ?_))))
 rcases bt ((!(Cn e.Fall 0 100000))) with w | w
 exact Ad 202 I w (Af 5 I (tW (jf (by simp only [n, w, bz]) I I I2)))
 exact Ad 202 I w (An 2 [.o 1 1] I J1 (Cf I I I (Cd (Di e.Suction 0 100000000 _ I) (Af 2 I (tW (jf (by simp only [n, w, bz]) I I I2))))))
 refine Ar h I ?_ ?_
 intro ez h
 refine Ah I ?_
 obtain rfl := ev _ (oi h).symm
 have h := bk
 have h := C2 h
 refine uD g0 ?_
 cases io h
 exact uC pr
 intro ez h
 refine tZ (tV (An 2 [.k 0 (S + 1 : Nat)] I ⟨A0 bm es, J⟩ ?_))
 cases io h
 exact tW ⟨_, _, _, I, I2, J4, [0], I, by decide⟩
 rintro bl s ob ⟨rfl, rfl⟩ he
 subst he
 have h := C8 bk
 have e0 := Cp a.Stations.length
 exact Ah I (Aa fun g4 g5 => Br I e0 (uE (lg ⟨(), h, I2⟩ [0])))
 rintro s ob ⟨bj, h, rfl, rfl⟩
 unfold Gr.J10 at h
 refine uB (Eb 218 ((!(Cn a.Vapour (-100000) 100000000)) || (!(Cn a.Settle 0 100))) ?_ ?_)
 refine tV (An 2 [.o 1 0] I J1 (Cd (Di a.Vapour (-100000) 100000000 _ I) (Af 2 I ?_)))
 rcases bt ((!(Cn a.Vapour (-100000) 100000000))) with A | A
 exact Ad 213 I A (Af 5 I (tW (jf (by simp only [A, bz]) I I I2)))
 exact Ad 213 I A (An 2 [.o 1 0] I J1 (Cf I I I (Cd (Di a.Settle 0 100 _ I) (Af 2 I (tW (jf (by simp only [A, bz]) I I I2))))))
 refine Ar h I ?_ ?_
 intro e1 h
 refine Ah I (uD g0 ?_)
 cases io h
 exact uC pr
 intro e1 h
 refine tZ (Ah I (uD g0 ?_))
 cases io h
 exact uC pr
theorem Ho (a : Sg) (b : Int) (r : Int × Int) (h : Fg a b = r) : ACalls Aj 64 [.agg (Ak a), .V b] [] (RV (.tup [.V r.1, .V r.2])) := by
 refine Ae Tryz.func64 I I I fun C hC => ?_
 refine Aa fun e c => tV (tX [] I (Bo (Ak a) 7 fun f => Af 2 I (tW ?_)))
 subst c
 refine uB (Ah I (Ar h I ?_ ?_))
 intro d h
 refine Kf (pd 6 0 []) [0] [_] [.o 1 0, .o 3 0] I I J2 (uD g0 ?_)
 obtain rfl := h
 exact uC ⟨.inr I, [_, _], [], J2, Cm, I2⟩
 intro d h
 refine tZ (Kf (pd 6 0 []) [0] [_] [.o 1 0, .o 3 0] I I J2 (uD g0 ?_))
 obtain rfl := h
 exact uC ⟨.inr I, [_, _], [], J2, Cm, I2⟩
theorem iY (d : Nw) (e : Plan) (n : Int) (r : Int × Int) (h : Qr d e n = some r) : ACalls Aj 100 [.agg (Ab d), .agg (Am e), .V n] [] (RV (.tup [.V r.1, .V r.2])) := by
 refine Ae Tryz.func100 I I I fun C hC => ?_
 unfold Qr at h
 refine Aa fun y1 Q => tV (tX [] I (Bo (Ab d) 6 fun p => tX [] I (Bo (Am e) 3 fun g => Af 2 I (tW ?_))))
 subst Q
 refine Ah I (Ai (fun s ob => ∃ (t : Int × Int), Qr.J1 d e n t = some r ∧ s = [(8, .V t.1), (9, .V t.2)] ∧ ob = [O0 p [Ab d], O1 g [Am e]]) [(2, _), (3, _), (4, _)] J3 ?_ ?_)
 refine Bh [.o 1 0, .l 2 (d.Segments.length : Int)] I ⟨Ax, I, J⟩ (uA (B0 17 I fun R => ?_))
 obtain ⟨ar, S, U⟩ := Ac h
 refine Cu S [(2, _), (3, _), (4, _), (17, _), (18, _)] J5 (fun (u : Nat) (b : Int × Int) s ob => s = [(19, .V (u : Int)), (8, .V b.1), (9, .V b.2)] ∧ ob = [O0 p [Ab d], O1 g [Am e]]) ⟨I, I⟩ ⟨I, I, I, J⟩ ⟨[0, 1], I, by decide⟩ ?_ ?_
 rintro u w b G s ob W H ⟨rfl, rfl⟩ h
 unfold Qr.B5 at h
 have X := Co H
 refine Ah I (Aa fun au Y => Bp I X (tZ ?_))
 subst Y
 refine Ai (fun s ob => ∃ (y : Int × Int), Qr.J6 y = some G ∧ s = [(8, .V y.1), (9, .V y.2)] ∧ ob = [O0 p [Ab d], O1 g [Am e]]) [(2, _), (3, _), (4, _), (17, _), (18, _), (19, _)] J6 ?_ ?_
 refine uA (Aa fun av Z => tV (An 3 [.x 1 u (Ak w)] I ⟨⟨I, Ag W⟩, J⟩ (tX [] I (uF W2 7 fun aw => Af 1 I (tX [2] I (A3 2 0 0 [Ak w] I (tW ?_)))))))
 subst Z
 refine Aa fun ax aa => uB ?_
 obtain ⟨a, ⟨A, B⟩, h⟩ := A6 h
 refine E2 [.o 1 1, .x 3 a.1 (rI a.2)] I ⟨⟨A, Ag B⟩, I, J⟩ (Ar h I ?_ ?_)
 intro ab h
 exact uE (lg ⟨(b.1, b.2), h, I2⟩ [0, 1])
 intro ab h
 refine tZ ?_
 subst aa
 refine Aa fun ay ac => Bz (pd 12 0 [6]) [2, 1] [_, _] I (Ca 6 [.o 0 0, .o 2 1, .x 4 a.1 (rI a.2)] I ⟨⟨A, Ag B⟩, I, I, J⟩ (Dq I (Ho w a.2 _ I) (Bf 5 I (Ap (tW ?_)))))
 subst ac
 refine Ai (fun s ob => ∃ (j : Int), Qr.J7 n w b a j = some G ∧ s = [(9, .V j)] ∧ ob = [O0 p [Ab d], O1 g [Am e]]) [(2, _), (3, _), (4, _), (8, _), (10, _), (13, _), (17, _), (18, _), (19, _)] J9 ?_ ?_
 refine Ah I (Ar h I ?_ ?_)
 intro ad h
 exact tV (An 6 [.o 2 1, .x 4 a.1 (rI a.2)] I ⟨⟨A, Ag B⟩, I, J⟩ (Cd (Of a.2 _ I) (Af 2 I (tW (lg ⟨wr (b.2 + (F8 a.2)), h, I2⟩ [0, 1])))))
 intro ad h
 exact tZ (lg ⟨b.2, h, I2⟩ [0, 1])
 rintro s ob ⟨j, h, rfl, rfl⟩
 refine Ah I (Ar h I ?_ ?_)
 intro ae h
 exact tV (An 6 [.o 2 1, .x 4 a.1 (rI a.2)] I ⟨⟨A, Ag B⟩, I, J⟩ (Cd (Of a.2 _ I) (Af 2 I (tW (lg ⟨(wr (b.1 + (F8 a.2)), j), h, I2⟩ [0, 1])))))
 intro ae h
 exact tZ (lg ⟨(b.1, j), h, I2⟩ [0, 1])
 rintro s ob ⟨y, h, rfl, rfl⟩
 unfold Qr.J6 at h
 refine tV (An 2 [.k 0 (u + 1 : Nat)] I ⟨A0 H R, J⟩ ?_)
 cases io h
 exact tW (lg I2 [0, 1])
 rintro b s ob ⟨rfl, rfl⟩ he
 subst he
 have h := U
 have af := Cp d.Segments.length
 exact Ah I (Aa fun az a0 => Br I af (uE (lg ⟨(b.1, b.2), h, I2⟩ [0, 1])))
 rintro s ob ⟨t, h, rfl, rfl⟩
 unfold Qr.J1 at h
 refine Ai (fun s ob => ∃ (D : Int × Int), Qr.J2 D = some r ∧ s = [(8, .V D.1), (9, .V D.2)] ∧ ob = []) [] J ?_ ?_
 refine Bh [.o 1 0, .l 2 (d.Ports.length : Int)] I ⟨Ax, I, J⟩ (uA (B0 64 I fun ag => ?_))
 obtain ⟨a1, ah, ai⟩ := Ac h
 refine Cu ah [(2, _), (4, _), (64, _), (65, _)] J4 (fun (E : Nat) (f : Int × Int) s ob => s = [(66, .V (E : Int)), (8, .V f.1), (9, .V f.2)] ∧ ob = [O1 g [Am e]]) ⟨I, I⟩ ⟨I, I, I, J⟩ ⟨[1], I, by decide⟩ ?_ ?_
 rintro E K f aj s ob ak M ⟨rfl, rfl⟩ h
 unfold Qr.B3 at h
 have al := Co M
 refine Ah I (Aa fun a2 am => Bp I al (tZ ?_))
 subst am
 refine Ai (fun s ob => ∃ (F : Int × Int), Qr.J4 F = some aj ∧ s = [(8, .V F.1), (9, .V F.2)] ∧ ob = [O1 g [Am e]]) [(2, _), (4, _), (64, _), (65, _), (66, _)] J5 ?_ ?_
 refine uA (Aa fun a3 an => tV (An 3 [.x 1 E (Cc K)] I ⟨⟨I, Ag ak⟩, J⟩ (tX [] I (uF W6 3 fun a4 => Af 1 I (tX [1] I (A3 1 0 0 [Cc K] I (tW ?_)))))))
 subst an
 refine Bh [.o 1 1] I J1 (Ar h I ?_ ?_)
 intro ao h
 obtain ⟨i, ⟨O, P⟩, h⟩ := A6 h
 exact In (pd 19 0 []) [0] [_] [.o 2 0, .x 4 i.1 (rI i.2), .o 10 0, .x 12 i.1 (rI i.2)] I I ⟨⟨O, Ag P⟩, I, ⟨O, Ag P⟩, I, J⟩ (lg ⟨(wr (f.1 + (max 0 i.2)), wr (f.2 + (max 0 (wr (0 - i.2))))), h, I2⟩ [0])
 intro ao h
 exact tZ (lg ⟨(f.1, f.2), h, I2⟩ [0])
 rintro s ob ⟨F, h, rfl, rfl⟩
 unfold Qr.J4 at h
 refine tV (An 2 [.k 0 (E + 1 : Nat)] I ⟨A0 M ag, J⟩ ?_)
 cases io h
 exact tW (lg I2 [0])
 rintro f s ob ⟨rfl, rfl⟩ he
 subst he
 have h := ai
 have ap := Cp d.Ports.length
 exact Ah I (Aa fun a5 a6 => Br I ap (uE (lg ⟨(f.1, f.2), h, I2⟩ [])))
 rintro s ob ⟨D, h, rfl, rfl⟩
 unfold Qr.J2 at h
 refine Ah I ?_
 cases io h
 exact uC ⟨.inr I, [_, _], [], J2, Cm, I2⟩
theorem Uu (b : Nw) (g : Plan) (r : Li) (h : H3 b g = some r) : ACalls Aj 101 [.agg (Ab b), .agg (Am g)] [] (fun x new => ∃ (R : Value), x = .v R ∧ new = [U0 R r]) := by
 refine Ae Tryz.func101 I I I fun C hC => ?_
 refine Aa fun y1 ad => tV (tX [] I (Bo (Ab b) 6 fun i => tX [] I (Bo (Am g) 3 fun j => Af 1 I (tW ?_))))
 subst ad
 refine Ah I (Aa fun y5 ae => ?_)
 obtain ⟨l6, ⟨m8, af, ag, ah⟩, h⟩ := Gl h
 refine tV (An 3 [.o 1 0, .l 2 (b.Nodes.length : Int)] I ⟨Ax, I, J⟩ (tX [] I (Bq (sz := 1) I I I I I I I I I I af ag (Ct (f := rB) ah I) dS fun n => Af 1 I (tW ?_))))
 subst ae
 refine uA (uD (Bs 3 1) ?_)
 obtain ⟨bj, ai, aj⟩ := Ac h
 refine Cs ai [(2, _), (3, _), (6, _)] J3 (fun (a : Li × (List Bool)) s ob => ∃ (e : Value), s = [(5, .v e)] ∧ ob = [O0 i [Ab b], O1 j [Am g], U1 n a.2, U0 e a.1]) ⟨(.slice none 0 0), I2⟩ ⟨I, J⟩ ⟨[0, 1, 2, 3], I, by decide⟩ ?_
 rintro a ak s ob ⟨e, rfl, rfl⟩ h al
 unfold H3.B1 at h
 refine uA (Ah I (Ai (fun s ob => ∃ (G : Int), H3.J2 a G = some ak ∧ s = [(7, .V G)] ∧ ob = [O0 i [Ab b], O1 j [Am g], U1 n a.2, U0 e a.1]) [(2, _), (3, _), (5, _), (6, _)] J4 ?_ ?_))
 refine Bh [.o 1 0, .l 2 (b.Nodes.length : Int)] I ⟨Ax, I, J⟩ (uA (B0 19 I fun am => ?_))
 obtain ⟨bk, an, ao⟩ := Ac h
 refine Cu an [(2, _), (3, _), (5, _), (6, _), (20, _)] J5 (fun (u : Nat) (p : Int) s ob => s = [(21, .V (u : Int)), (7, .V p)] ∧ ob = [O0 i [Ab b], O1 j [Am g], U1 n a.2, U0 e a.1]) ⟨I, I⟩ ⟨I, I, J⟩ ⟨[0, 1, 2, 3], I, by decide⟩ ?_ ?_
 rintro u bl p S s ob bm U ⟨rfl, rfl⟩ h
 unfold H3.B3 at h
 have aq := Co U
 refine Ah I (Aa fun bn ar => Bp I aq (tZ ?_))
 subst ar
 refine Ai (fun s ob => ∃ (O : Int), H3.J4 O = some S ∧ s = [(7, .V O)] ∧ ob = [O0 i [Ab b], O1 j [Am g], U1 n a.2, U0 e a.1]) [(2, _), (3, _), (5, _), (6, _), (20, _), (21, _)] J6 ?_ ?_
 refine uA (Ah I (Aa fun bo au => ?_))
 obtain ⟨P, ⟨av, W⟩, h⟩ := A6 h
 refine tV (Af 2 I (uJ (Bm 2 (m := P.1) I I I I I I I av (Ag W)) I (uJ (Bl 2 P.1 0 I I I (Ag W) I (y := .v (.bool P.2)) I) I (Af 2 I (tW ?_)))))
 subst au
 refine Ai (fun s ob => ∃ (B : Bool), H3.J5 u p B = some S ∧ s = [(9, .v (.bool B))] ∧ ob = [O0 i [Ab b], O1 j [Am g], U1 n a.2, U0 e a.1]) [(2, _), (3, _), (5, _), (6, _), (7, _), (8, _), (20, _), (21, _)] J8 ?_ ?_
 refine Bh [.o 1 0, .l 2 (b.Segments.length : Int)] I ⟨Ax, I, J⟩ (uA (B0 30 I fun aw => ?_))
 obtain ⟨bp, ax, ay⟩ := Ac h
 refine Cu ax [(2, _), (3, _), (5, _), (6, _), (7, _), (8, _), (20, _), (21, _), (30, _), (31, _)] jW (fun (H : Nat) (w : Bool) s ob => s = [(32, .V (H : Int)), (9, .v (.bool w))] ∧ ob = [O0 i [Ab b], O1 j [Am g], U1 n a.2, U0 e a.1]) ⟨I, I⟩ ⟨I, I, J⟩ ⟨[0, 1, 2, 3], I, by decide⟩ ?_ ?_
 rintro H K w az s ob a0 X ⟨rfl, rfl⟩ h
 unfold H3.B6 at h
 have a1 := Co X
 refine Ah I (Aa fun bq a2 => Bp I a1 (tZ ?_))
 subst a2
 refine Ai (fun s ob => ∃ (Q : Bool), H3.J7 Q = some az ∧ s = [(9, .v (.bool Q))] ∧ ob = [O0 i [Ab b], O1 j [Am g], U1 n a.2, U0 e a.1]) [(2, _), (3, _), (5, _), (6, _), (7, _), (8, _), (20, _), (21, _), (30, _), (31, _), (32, _)] sO ?_ ?_
 refine uA (Aa fun br a3 => tV (An 3 [.x 1 H (Ak K)] I ⟨⟨I, Ag a0⟩, J⟩ (tX [] I (uF W2 7 fun bs => Af 1 I (tX [4] I (A3 4 0 0 [Ak K] I (tW ?_)))))))
 subst a3
 refine Aa fun bu a4 => ?_
 obtain ⟨A, ⟨Y, Z⟩, h⟩ := A6 h
 refine E2 [.o 1 1, .x 3 A.1 (rI A.2)] I ⟨⟨Y, Ag Z⟩, I, J⟩ ?_
 subst a4
 refine Ar h I ?_ ?_
 intro a5 h
 refine Aa fun bv a6 => Bz (pd 12 0 [6]) [4, 1] [_, _] I (Ca 6 [.o 0 0, .o 2 1, .x 4 A.1 (rI A.2)] I ⟨⟨Y, Ag Z⟩, I, I, J⟩ (Dq I (Ho K A.2 _ I) (Bf 5 I (Ap (tW ?_)))))
 subst a6
 refine tV (Af 2 I ?_)
 rcases bt (w) with D | D
 have h := Bu D h
 refine Ad 54 I D ?_
 rcases bt ((((Fg K A.2).2) != (u : Int))) with E | E
 have h := Bu E h
 exact Af 4 I (Ad 58 I E (Af 7 I (tW (lg ⟨true, h, I2⟩ [0, 1, 2, 3]))))
 have h := Bv E h
 obtain ⟨M, ⟨a7, aa⟩, h⟩ := A6 h
 exact Af 4 I (Ad 58 I E (Af 2 I (Cf I I I (uJ (Bm 2 (m := M.1) I I I I I I I a7 (Ag aa)) I (Cf I I I (uJ (Bl 2 M.1 0 I I I (Ag aa) I (y := .v (.bool M.2)) I) I (Af 3 I (tW (lg ⟨M.2, h, I2⟩ [0, 1, 2, 3])))))))))
 have h := Bv D h
 exact Ad 54 I D (Af 4 I (By I I dS (By I I dS (By I I dS (By I I dS (Af 3 I (tW (lg ⟨false, h, I2⟩ [0, 1, 2, 3]))))))))
 intro a5 h
 exact tZ (lg ⟨w, h, I2⟩ [0, 1, 2, 3])
 rintro s ob ⟨Q, h, rfl, rfl⟩
 unfold H3.J7 at h
 refine tV (An 2 [.k 0 (H + 1 : Nat)] I ⟨A0 X aw, J⟩ ?_)
 cases io h
 exact tW (lg I2 [0, 1, 2, 3])
 rintro w s ob ⟨rfl, rfl⟩ he
 subst he
 have h := ay
 have a8 := Cp b.Segments.length
 exact Ah I (Aa fun bw bx => Br I a8 (uE (lg ⟨w, h, I2⟩ [0, 1, 2, 3])))
 rintro s ob ⟨B, h, rfl, rfl⟩
 unfold H3.J5 at h
 refine Eb 70 (B && decide (p < 0)) ?_ ?_
 refine tV (Af 2 I ?_)
 rcases bt (B) with F | F
 exact Ad 67 I F (Af 3 I (tW (jf (by simp only [F, bz]) I I I2)))
 exact Ad 67 I F (Af 3 I (tW (jf (by simp only [F, bz]) I I I2)))
 refine Ar h I ?_ ?_
 intro a9 h
 exact Sq I (lg ⟨(u : Int), h, I2⟩ [0, 1, 2, 3])
 intro a9 h
 exact tZ (lg ⟨p, h, I2⟩ [0, 1, 2, 3])
 rintro s ob ⟨O, h, rfl, rfl⟩
 unfold H3.J4 at h
 refine tV (An 2 [.k 0 (u + 1 : Nat)] I ⟨A0 U am, J⟩ ?_)
 cases io h
 exact tW (lg I2 [0, 1, 2, 3])
 rintro p s ob ⟨rfl, rfl⟩ he
 subst he
 have h := ao
 have ba := Cp b.Nodes.length
 exact Ah I (Aa fun b0 b1 => Br I ba (uE (lg ⟨p, h, I2⟩ [0, 1, 2, 3])))
 rintro s ob ⟨G, h, rfl, rfl⟩
 refine uB (Ah I (Ar h I ?_ ?_))
 intro bb h
 refine Ah I ?_
 obtain rfl := al _ (oi h).symm
 have h := aj
 refine Cv [3] I ?_
 obtain rfl := oi h
 exact uC ⟨.inr I, [_], [U0 e a.1], J1, Cz I (Cm), ⟨e, I2⟩⟩
 intro bb h
 refine tZ (uB ?_)
 obtain ⟨b4, bc, h⟩ := Ac h
 refine tV (Af 2 I (tX [] I (uG 1 (([G] : Li).map rI) (tX [3] I (C9 3 I bc fun bd => Af 1 I (tW ?_))))))
 obtain ⟨ab, ⟨be, ac⟩, h⟩ := A6 h
 refine tV (Af 2 I (uJ (Bm 2 (m := ab.1) I I I I I I I be (Ag ac)) I (tX [2] I (Ci 2 ab.1 0 I I I (Ag ac) I I I I (Cb I) I (Dg (x := true) I) ?_))))
 cases io h
 exact tW ⟨_, _, _, I, ⟨bd, I2⟩, J4, [0, 1, 2, 3], I, by decide⟩
theorem T3 (b : Nw) (a : Plan) (r : Int) (h : Kq b a = some r) : ACalls Aj 59 [.agg (Ab b), .agg (Am a)] [] (RV (.V r)) := by
 refine Ae Tryz.func59 I I I fun C hC => ?_
 refine Aa fun y1 Q => tV (tX [] I (Bo (Ab b) 6 fun d => tX [] I (Bo (Am a) 3 fun e => Af 1 I (tW ?_))))
 subst Q
 refine Aa fun y4 R => uB ?_
 obtain ⟨r5, S, h⟩ := Ac h
 refine tV (An 1 [.o 0 0] I J1 (Cd (Jx _ _ S) (Af 1 I (tW (Ah I (Ar h I ?_ ?_))))))
 intro U h
 refine Ah I (uD g0 ?_)
 cases io h
 exact uC pr
 intro U h
 refine tZ ?_
 subst R
 refine Aa fun y8 W => Eb 43 (((a.Rates.length : Int) != (b.Segments.length : Int)) || (((a.Ports.length : Int) != (b.Ports.length : Int)) || ((a.Pumps.length : Int) != (b.Stations.length : Int)))) ?_ ?_
 refine tV (An 8 [.o 1 1, .l 2 (a.Rates.length : Int), .o 4 0, .l 5 (b.Segments.length : Int)] I ⟨Ax, I, Ax, I, J⟩ ?_)
 rcases bt (((a.Rates.length : Int) != (b.Segments.length : Int))) with f | f
 exact Ad 26 I f (Af 17 I (tW (jf (by simp only [f, bz]) I I I2)))
 refine Ad 26 I f (An 9 [.o 1 1, .l 2 (a.Ports.length : Int), .o 4 0, .l 5 (b.Ports.length : Int)] I ⟨Ax, I, Ax, I, J⟩ ?_)
 rcases bt (((a.Ports.length : Int) != (b.Ports.length : Int))) with g | g
 exact Ad 35 I g (Af 8 I (tW (jf (by simp only [f, g, bz]) I I I2)))
 exact Ad 35 I g (An 8 [.o 1 1, .l 2 (a.Pumps.length : Int), .o 4 0, .l 5 (b.Stations.length : Int)] I ⟨Ax, I, Ax, I, J⟩ (tW (jf (by simp only [f, g, bz]) I I I2)))
 refine Ar h I ?_ ?_
 intro X h
 refine Ah I (uD g0 ?_)
 cases io h
 exact uC pr
 intro X h
 refine tZ ?_
 subst W
 refine Ai (fun s ob => ∃ (A : Unit), Kq.J1 b a A = some r ∧ s = [] ∧ ob = [O0 d [Ab b], O1 e [Am a]]) [(2, _), (3, _)] J2 ?_ ?_
 refine Bh [.o 1 1, .l 2 (a.Rates.length : Int)] I ⟨Ax, I, J⟩ (uA (B0 45 I fun Y => ?_))
 obtain ⟨a7, Z, B⟩ := Ac h
 refine Bx Z [(2, _), (3, _), (45, _), (46, _)] J4 (fun (p : Nat) (D : Unit) s ob => s = [(47, .V (p : Int))] ∧ ob = [O0 d [Ab b], O1 e [Am a]]) ⟨I, I⟩ ⟨I, J⟩ ⟨[0, 1], I, by decide⟩ ?_ ?_
 rintro p t D a8 s ob aa E ⟨rfl, rfl⟩ h ab
 have ac := Co E
 refine Ah I (Aa fun a9 ad => Bp I ac (tZ ?_))
 subst ad
 refine uB (uA (Bh [.x 1 p (rI t)] I ⟨⟨I, Ag aa⟩, J⟩ (Aa fun ba ae => ?_)))
 obtain ⟨i, ⟨af, ag⟩, h⟩ := A6 h
 refine E2 [.o 1 0, .x 3 i.1 (Ak i.2)] I ⟨⟨af, Ag ag⟩, I, J⟩ ?_
 subst ae
 refine Eb 67 (decide (t < (wr (0 - (min 1000 i.2.Capacity)))) || decide (t > (min 1000 i.2.Capacity))) ?_ ?_
 refine tV (Af 5 I ?_)
 rcases bt (decide (t < (wr (0 - (min 1000 i.2.Capacity))))) with j | j
 exact Ad 63 I j (Af 4 I (tW (jf (by simp only [j, bz]) I I I2)))
 exact Ad 63 I j (Af 4 I (tW (jf (by simp only [j, bz]) I I I2)))
 refine Ar h I ?_ ?_
 intro ah h
 refine Ah I ?_
 obtain rfl := ab _ (oi h).symm
 have h := B
 have h := C2 h
 refine uD g0 ?_
 cases io h
 exact uC pr
 intro ah h
 refine tZ (tV (An 2 [.k 0 (p + 1 : Nat)] I ⟨A0 E Y, J⟩ ?_))
 cases io h
 exact tW ⟨_, _, _, I, I2, J5, [0, 1], I, by decide⟩
 rintro D s ob ⟨rfl, rfl⟩ he
 subst he
 have h := C8 B
 have ai := Cp a.Rates.length
 exact Ah I (Aa fun bb bc => Br I ai (uE (lg ⟨(), h, I2⟩ [0, 1])))
 rintro s ob ⟨A, h, rfl, rfl⟩
 unfold Kq.J1 at h
 refine Ai (fun s ob => ∃ (F : Unit), Kq.J2 b a F = some r ∧ s = [] ∧ ob = [O0 d [Ab b], O1 e [Am a]]) [(2, _), (3, _)] J2 ?_ ?_
 refine Bh [.o 1 1, .l 2 (a.Ports.length : Int)] I ⟨Ax, I, J⟩ (uA (B0 70 I fun aj => ?_))
 obtain ⟨bd, ak, G⟩ := Ac h
 refine Bx ak [(2, _), (3, _), (70, _), (71, _)] J4 (fun (u : Nat) (H : Unit) s ob => s = [(72, .V (u : Int))] ∧ ob = [O0 d [Ab b], O1 e [Am a]]) ⟨I, I⟩ ⟨I, J⟩ ⟨[0, 1], I, by decide⟩ ?_ ?_
 rintro u w H be s ob al K ⟨rfl, rfl⟩ h am
 unfold Kq.B5 at h
 have an := Co K
 refine Ah I (Aa fun bf ao => Bp I an (tZ ?_))
 subst ao
 refine uB (uA (Bh [.x 0 u (rI w)] I ⟨⟨I, Ag al⟩, J⟩ (Eb 81 (decide (w < (-1000)) || decide (w > 1000)) ?_ ?_)))
 refine tV (Af 3 I ?_)
 rcases bt (decide (w < (-1000))) with n | n
 exact Ad 78 I n (Af 3 I (tW (jf (by simp only [n, bz]) I I I2)))
 exact Ad 78 I n (Af 3 I (tW (jf (by simp only [n, bz]) I I I2)))
 refine Ar h I ?_ ?_
 intro ap h
 refine Ah I ?_
 obtain rfl := am _ (oi h).symm
 have h := G
 have h := C2 h
 refine uD g0 ?_
 cases io h
 exact uC pr
 intro ap h
 refine tZ (tV (An 2 [.k 0 (u + 1 : Nat)] I ⟨A0 K aj, J⟩ ?_))
 cases io h
 exact tW ⟨_, _, _, I, I2, J5, [0, 1], I, by decide⟩
 rintro H s ob ⟨rfl, rfl⟩ he
 subst he
 have h := C8 G
 have aq := Cp a.Ports.length
 exact Ah I (Aa fun bg bh => Br I aq (uE (lg ⟨(), h, I2⟩ [0, 1])))
 rintro s ob ⟨F, h, rfl, rfl⟩
 unfold Kq.J2 at h
 refine Ai (fun s ob => ∃ (M : Unit), Kq.J3 b a M = some r ∧ s = [] ∧ ob = [O0 d [Ab b], O1 e [Am a]]) [(2, _), (3, _)] J2 ?_ ?_
 refine Bh [.o 1 0, .l 2 (b.Nodes.length : Int)] I ⟨Ax, I, J⟩ (uA (B0 84 I fun ar => ?_))
 obtain ⟨bi, au, N⟩ := Ac h
 refine Bx au [(2, _), (3, _), (85, _)] J3 (fun (y : Nat) (O : Unit) s ob => s = [(86, .V (y : Int))] ∧ ob = [O0 d [Ab b], O1 e [Am a]]) ⟨I, I⟩ ⟨I, J⟩ ⟨[0, 1], I, by decide⟩ ?_ ?_
 rintro y bj O bk s ob bl P ⟨rfl, rfl⟩ h av
 have aw := Co P
 refine Ah I (Aa fun bm ax => Bp I aw (tZ ?_))
 subst ax
 refine uB (uA (Ah I (uB ?_)))
 obtain ⟨bn, ay, h⟩ := Ac h
 refine tV (An 3 [.o 0 0, .o 1 1] I J2 (Cd (iY _ _ _ _ ay) (Af 5 I (tW (Ah I (Ar h I ?_ ?_))))))
 intro az h
 refine Ah I ?_
 obtain rfl := av _ (oi h).symm
 have h := N
 have h := C2 h
 refine uD g0 ?_
 cases io h
 exact uC pr
 intro az h
 refine tZ (tV (An 2 [.k 0 (y + 1 : Nat)] I ⟨A0 P ar, J⟩ ?_))
 cases io h
 exact tW ⟨_, _, _, I, I2, J4, [0, 1], I, by decide⟩
 rintro O s ob ⟨rfl, rfl⟩ he
 subst he
 have h := C8 N
 have a0 := Cp b.Nodes.length
 exact Ah I (Aa fun bo bp => Br I a0 (uE (lg ⟨(), h, I2⟩ [0, 1])))
 rintro s ob ⟨M, h, rfl, rfl⟩
 refine uB (uB ?_)
 obtain ⟨bq, a1, h⟩ := Ac h
 refine Bz (.still 0 (.still 1 (sl 3 4 (.act 2 (.act 3 (.still 7 .nil)))))) [0, 1] [_, _] I (Ca 5 [.o 0 0, .o 1 1, .o 3 0, .l 4 (b.Nodes.length : Int)] I ⟨Ax, I, I, I, J⟩ (tY [] I I I (Ck I I I (Uu _ _ _ a1) dS ?_)))
 rintro _ _ ⟨br, rfl, rfl⟩
 refine tY [] I I I (Ce (C0 2 I I I I) dS (Bf 1 I (Ap (tW (Ar h I ?_ ?_)))))
 intro a2 h
 refine Ah I (uD g0 ?_)
 cases io h
 exact uC pr
 intro a2 h
 refine tZ (Ah I (uD g0 ?_))
 cases io h
 exact uC pr
theorem jS (a : Sg) (r : Bool) (h : We a = some r) : ACalls Aj 161 [.agg (Ak a)] [] (RB r) := by
 refine Ae Tryz.func161 I I I fun C hC => ?_
 refine Aa fun i b => tV (tX [] I (Bo (Ak a) 7 fun j => Af 1 I (tW ?_)))
 subst b
 refine uB (tV (Af 1 I (tX [0] I (A3 0 0 1 [[.v (.string a.Name), .V 0, .V a.To, .V a.Capacity, .V a.Resist, .V a.Wave, sP a.Points]] I (Af 1 I (tX [0] I (A3 0 0 2 [[.v (.string a.Name), .V 0, .V 1, .V a.Capacity, .V a.Resist, .V a.Wave, sP a.Points]] I (tW (uB ?_)))))))))
 obtain ⟨k, c, h⟩ := Ac h
 refine tV (tX [] I (uL (sz := 1) (es := ([(⟨#[97]⟩ : Bt), (⟨#[98]⟩ : Bt)] : List Bt).map rS) I I I I I I I I I I I dS fun d => An 1 [.o 0 0] I J1 (tX [] I (uL (sz := 7) (es := ([(⟨a.Name, 0, 1, a.Capacity, a.Resist, a.Wave, a.Points⟩ : Sg)] : List Sg).map Ak) I I I I I I I I I I I dS fun e => uS 1 I fun f => uS 2 I fun g => uH (Au (l := [.v d, .v e, .N, .N, .V 0, .V 0]) H9 (As I I (A8 f) I (As I I (A8 g) I (Cw)))) I (tX [] I (Ch I (.refl _) I I (.cons (.agg (.cons (.us 1 I) (.cons (.us 2 I) (.cons (.nil _) (.cons (.nil _) (.rest _)))))) (.rest _)) I (Jx _ _ c) dS (by rintro _ _ ⟨rfl, _⟩; rfl) ?_))))))
 rintro _ ⟨_, rfl, -⟩
 refine Af 2 I (tW (uD g0 ?_))
 cases io h
 exact uC pr
end Go.Proofs.YtodeekicjiengaaGreatDoor
