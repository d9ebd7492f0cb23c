/- Walks that show what functions of the program compute; printed by a program of ours. No condition. -/
import Derived.Test.YtaoclefkknloiaaGreatZwL0
import Derived.Test.YtaoclefkknloiaaGreatZwD
import Derived.Test.YtaoclefkknloiaaGreatZwL1
set_option maxRecDepth 100000
namespace Go.Proofs.YtaoclefkknloiaaGreat
open Go.Aw
set_option linter.unusedVariables false
set_option linter.unusedSimpArgs false
set_option maxHeartbeats 4000000
abbrev fL : PL := .act 16 (.still 17 (.still 18 .nil))
theorem C8 (a : Int) (c : Int) (d : Int) (r : Bool) (h : Co a c d = r) : ACalls Al 86 [.V a, .V c, .V d] [] (RB r) := by
 refine Ag Tryz.func86 I I I fun C hC => ?_
 unfold Co at h
 refine Ai I (Ak (fun s ob => s = [(6, .v (.bool (decide (a ≥ c) && decide (a ≤ d))))] ∧ ob = []) [] J ?_ ?_)
 refine qD (Af 4 I ?_)
 rcases bt (decide (a ≥ c)) with b | b
 refine Ah 10 I b (Af 5 I (qE ?_))
 exact lf I2 ⟨(D3 (by simp only [b, bz])), J⟩ [] I
 refine Ah 10 I b (Af 5 I (qE ?_))
 exact lf I2 ⟨(D3 (by simp only [b, bz])), J⟩ [] I
 rintro s ob ⟨rfl, rfl⟩
 obtain rfl := h
 exact qK pr
theorem dZ (a : Nw) (r : Arr (List Bt) 4) (h : Qx a = some r) : ACalls Al 87 [.agg (Ab a)] [] (RV (.agg (r.l.map (cL 1 rS)))) := by
 refine Ag Tryz.func87 I I I fun C hC => ?_
 unfold Qx at h
 refine Ac fun y1 U => qD (qF [] I (Cp (Ab a) 6 fun u => qF [] I (B0 W2 4 fun f => qE ?_)))
 subst U
 refine Ac fun y4 W => qD (qF [] I (B0 W2 4 fun g => qE ?_))
 subst W
 refine Ac fun y6 X => qD (Ao 2 [.o 1 0] I J1 (qQ (Du (m := 0) I I I I I I (Be I)) I (qF [2] I (By 2 0 0 [[Q1 a.Nodes, .N, .N, .N]] I (qE ?_)))))
 subst X
 refine Ak (fun s ob => ∃ (c : List Bt) (b : Value), Qx.J1 a c = some r ∧ s = [] ∧ ob = [O0 u [Ab a], O4 f [W2], O4 g [[Q1 a.Nodes, .v b, .N, .N]], U2 b c]) (K3 1 2 3) J3 ?_ ?_
 refine Bk [.o 1 0, .l 2 (a.Segments.length : Int)] I ⟨A6, I, J⟩ (qH (Cd 14 I fun Y => qL (Ay 9 1) ?_))
 obtain ⟨a5, Z, aa⟩ := Ad h
 refine Cr Z (K5 1 2 3 14 15) J5 (fun (w : Nat) (y : List Bt) s ob => ∃ (j : Value), s = [(16, .V (w : Int))] ∧ ob = [O0 u [Ab a], O4 f [W2], O4 g [[Q1 a.Nodes, .v j, .N, .N]], U2 j y]) ⟨nS, I2⟩ ⟨I, J⟩ (pk N4) ?_ ?_
 rintro w F y a6 s ob ab M ⟨j, rfl, rfl⟩ h
 have ac := Cm M
 refine Ai I (Ac fun a7 ad => Bl I ac (qI ?_))
 subst ad
 refine qJ (qH (qJ (qD (Ao 2 [.x 0 w (Au F)] I ⟨⟨I, Ae ab⟩, J⟩ (qF [] I (B0 W1 7 fun a8 => qF [4] I (By 4 0 0 [Au F] I (qE ?_))))))))
 obtain ⟨a9, ae, h⟩ := Ad h
 refine qD (qQ (Du (m := 1) I I I I I I (Be I)) I (Ao 3 [.o 0 2, .o 2 4] I J2 (qF [] I (qO 1 (([F.Name] : List Bt).map rS) (qF [3] I (qU 3 I ae fun O => qQ (Du (m := 1) I I I I I I (Be I)) I (AO.one 3 I fun af => qF [2] I (qT 2 0 1 (es' := [[Q1 a.Nodes, .v O, .N, .N]]) I I I I I I (Bz af) I (Be I) I I (qE (qD (Ao 2 [.k 0 (w + 1 : Nat)] I ⟨Az M Y, J⟩ ?_)))))))))))
 cases io h
 exact qE (lg ⟨O, I2⟩ N4)
 rintro y s ob ⟨j, rfl, rfl⟩ he
 subst he
 have h := aa
 have ag := Cn a.Segments.length
 exact Ai I (Ac fun ba bb => Bm I ag (qM (lg ⟨y, j, h, I2⟩ N4)))
 rintro s ob ⟨c, b, h, rfl, rfl⟩
 unfold Qx.J1 at h
 refine Ak (fun s ob => ∃ (e : List Bt) (d : Value), Qx.J2 a c e = some r ∧ s = [] ∧ ob = [O0 u [Ab a], O4 f [W2], O4 g [[Q1 a.Nodes, .v b, .v d, .N]], U2 b c, U2 d e]) (K3 1 2 3) J3 ?_ ?_
 refine Bk [.o 1 0, .l 2 (a.Ports.length : Int)] I ⟨A6, I, J⟩ (qH (Cd 29 I fun ah => qL (Ay 9 1) ?_))
 obtain ⟨bc, ai, aj⟩ := Ad h
 refine Cr ai (K5 1 2 3 29 30) J5 (fun (A : Nat) (B : List Bt) s ob => ∃ (n : Value), s = [(31, .V (A : Int))] ∧ ob = [O0 u [Ab a], O4 f [W2], O4 g [[Q1 a.Nodes, .v b, .v n, .N]], U2 b c, U2 n B]) ⟨nS, I2⟩ ⟨I, J⟩ (pk N5) ?_ ?_
 rintro A G B bd s ob ak P ⟨n, rfl, rfl⟩ h
 have al := Cm P
 refine Ai I (Ac fun be am => Bl I al (qI ?_))
 subst am
 refine qJ (qH (qJ (qD (Ao 2 [.x 0 A (Bn G)] I ⟨⟨I, Ae ak⟩, J⟩ (qF [] I (B0 W4 3 fun bf => qF [5] I (By 5 0 0 [Bn G] I (qE ?_))))))))
 obtain ⟨bg, an, h⟩ := Ad h
 refine qD (qQ (Du (m := 2) I I I I I I (Be I)) I (Ao 3 [.o 0 2, .o 2 5] I J2 (qF [] I (qO 1 (([G.Name] : List Bt).map rS) (qF [4] I (qU 4 I an fun Q => qQ (Du (m := 2) I I I I I I (Be I)) I (AO.one 4 I fun ao => qF [2] I (qT 2 0 2 (es' := [[Q1 a.Nodes, .v b, .v Q, .N]]) I I I I I I (Bz ao) I (Be I) I I (qE (qD (Ao 2 [.k 0 (A + 1 : Nat)] I ⟨Az P ah, J⟩ ?_)))))))))))
 cases io h
 exact qE (lg ⟨Q, I2⟩ N5)
 rintro B s ob ⟨n, rfl, rfl⟩ he
 subst he
 have h := aj
 have aq := Cn a.Ports.length
 exact Ai I (Ac fun bh bi => Bm I aq (qM (lg ⟨B, n, h, I2⟩ N5)))
 rintro s ob ⟨e, d, h, rfl, rfl⟩
 unfold Qx.J2 at h
 refine Ak (fun s ob => ∃ (q : List Bt) (i : Value), Qx.J3 a c e q = some r ∧ s = [] ∧ ob = [O4 f [W2], O4 g [[Q1 a.Nodes, .v b, .v d, .v i]], U2 b c, U2 d e, U2 i q]) (K2 2 3) J2 ?_ ?_
 refine Bk [.o 1 0, .l 2 (a.Stations.length : Int)] I ⟨A6, I, J⟩ (qH (Cd 44 I fun ar => qL (Ay 9 1) ?_))
 obtain ⟨bj, au, av⟩ := Ad h
 refine Cr au (K4 2 3 44 45) J4 (fun (D : Nat) (E : List Bt) s ob => ∃ (t : Value), s = [(46, .V (D : Int))] ∧ ob = [O4 f [W2], O4 g [[Q1 a.Nodes, .v b, .v d, .v t]], U2 b c, U2 d e, U2 t E]) ⟨nS, I2⟩ ⟨I, J⟩ (pk [1, 2, 3, 4, 5]) ?_ ?_
 rintro D H E bk s ob aw R ⟨t, rfl, rfl⟩ h
 have ax := Cm R
 refine Ai I (Ac fun bl ay => Bl I ax (qI ?_))
 subst ay
 refine qJ (qH (qJ (qD (Ao 2 [.x 0 D (Br H)] I ⟨⟨I, Ae aw⟩, J⟩ (qF [] I (B0 W5 5 fun bm => qF [5] I (By 5 0 0 [Br H] I (qE ?_))))))))
 obtain ⟨bn, az, h⟩ := Ad h
 refine qD (qQ (Du (m := 3) I I I I I I (Be I)) I (Ao 3 [.o 0 1, .o 2 5] I J2 (qF [] I (qO 1 (([H.Name] : List Bt).map rS) (qF [4] I (qU 4 I az fun S => qQ (Du (m := 3) I I I I I I (Be I)) I (AO.one 4 I fun a0 => qF [1] I (qT 1 0 3 (es' := [[Q1 a.Nodes, .v b, .v d, .v S]]) I I I I I I (Bz a0) I (Be I) I I (qE (qD (Ao 2 [.k 0 (D + 1 : Nat)] I ⟨Az R ar, J⟩ ?_)))))))))))
 cases io h
 exact qE (lg ⟨S, I2⟩ N5)
 rintro E s ob ⟨t, rfl, rfl⟩ he
 subst he
 have h := av
 have a1 := Cn a.Stations.length
 exact Ai I (Ac fun bo bp => Bm I a1 (qM (lg ⟨E, t, h, I2⟩ N5)))
 rintro s ob ⟨q, i, h, rfl, rfl⟩
 unfold Qx.J3 at h
 refine qJ (qD (Ao 1 [.o 0 1] I J1 (qF [0] I (By 0 0 0 [[Q1 a.Nodes, .v b, .v d, .v i]] I (qE (qL (As [2, 3, 4] (K := [U2 b c, U2 d e, U2 i q]) I [] J (ob' := [O4 f [[Q1 a.Nodes, Q1 c, Q1 e, Q1 q]], O4 g [[Q1 a.Nodes, .v b, .v d, .v i]]]) (.cons (.arr (.cons (.refl _) (.cons (.us 0 I) (.cons (.us 1 I) (.cons (.us 2 I) (.rest _)))))) (.rest _))) (Dd [0] I ?_)))))))
 cases io h
 exact qK ⟨.inr I, [_], [], ⟨⟨0, _, _, _, _, _, _, _, I5⟩, J⟩, Cv, I2⟩
theorem dY (g : Bt) (r : Bool) (h : Qw g = some r) : ACalls Al 88 [.v (.string g)] [] (RB r) := by
 refine Ag Tryz.func88 I I I fun C hC => ?_
 unfold Qw at h
 refine Ai I (Ac fun X M => Ak (fun s ob => ∃ (y : Bool), Qw.J1 g y = some r ∧ s = [(21, .v (.bool y))] ∧ ob = []) [(0, _)] J1 ?_ ?_)
 refine qD (Af 4 I ?_)
 rcases bt (decide ((g.size : Int) < 1)) with i | i
 have h := Cb i h
 exact Ah 7 I i (Af 14 I (qE (lg ⟨true, h, I2⟩ [])))
 have h := Cc i h
 refine Ah 7 I i ?_
 rcases bt (decide ((g.size : Int) > 12)) with j | j
 have h := Cb j h
 exact Af 5 I (Ah 12 I j (Af 9 I (qE (lg ⟨true, h, I2⟩ []))))
 have h := Cc j h
 obtain ⟨f, N, h⟩ := Ad h
 obtain ⟨D, E, F⟩ := Mv N
 refine Af 5 I (Ah 12 I j (Af 1 I (Bj I I I (qQ (C3 (m := f.1) I I I I D E F) I (Bj I I I (qQ (qZ (c := decide (f.2 < 97)) I I I) I (Af 2 I ?_)))))))
 rcases bt (decide (f.2 < 97)) with k | k
 have h := Cb k h
 exact Ah 17 I k (Af 4 I (qE (lg ⟨true, h, I2⟩ [])))
 have h := Cc k h
 exact Ah 17 I k (Af 1 I (Bj I I I (qQ (C3 (m := f.1) I I I I D E F) I (Bj I I I (qQ (qZ (c := decide (f.2 > 122)) I I I) I (Af 1 I (qE (lg ⟨decide (f.2 > 122), h, I2⟩ []))))))))
 rintro s ob ⟨y, h, rfl, rfl⟩
 refine Av h I ?_ ?_
 intro O h
 refine Ai I ?_
 cases io h
 exact qK pr
 intro O h
 refine qI ?_
 subst M
 refine Ak (fun s ob => ∃ (G : Unit), Qw.J2 G = some r ∧ s = [] ∧ ob = []) [] J ?_ ?_
 refine Ai I (qH ?_)
 obtain ⟨Y, P, H⟩ := Ad h
 refine Dm P [(0, _)] J1 (fun (A : Int) s ob => s = [(3, .V A)] ∧ ob = []) ⟨I, I⟩ ⟨I, J⟩ (pk []) ?_
 rintro A Q s ob ⟨rfl, rfl⟩ h K
 refine Ac fun Z R => Ai I (Av h I ?_ ?_)
 intro S h
 refine qI ?_
 subst R
 refine qJ (qH (Ak (fun s ob => ∃ (B : Bool), Qw.J4 A B = some Q ∧ s = [(55, .v (.bool B))] ∧ ob = []) (K2 0 3) J2 ?_ ?_))
 obtain ⟨a, U, h⟩ := Ad h
 obtain ⟨b, d, e⟩ := Mv U
 refine qD (Af 2 I (qQ (C3 (m := a.1) I I I I b d e) I (qQ (qZ (c := decide (a.2 < 97)) I I I) I (Af 1 I ?_))))
 rcases bt (decide (a.2 < 97)) with l | l
 have h := Cb l h
 refine Ah 32 I l (Af 8 I (Bj I I I (qQ (C3 (m := a.1) I I I I b d e) I (Bj I I I (qQ (qZ (c := decide (a.2 < 48)) I I I) I (Af 1 I ?_))))))
 rcases bt (decide (a.2 < 48)) with n | n
 have h := Cb n h
 exact Ah 43 I n (Af 9 I (Bj I I I (qQ (C3 (m := a.1) I I I I b d e) I (Bj I I I (qQ (qZ (c := (a.2 != 45)) I I I) I (Af 1 I (qE (lg ⟨(a.2 != 45), h, I2⟩ []))))))))
 have h := Cc n h
 refine Ah 43 I n (Af 2 I (Bj I I I (qQ (C3 (m := a.1) I I I I b d e) I (Bj I I I (qQ (qZ (c := decide (a.2 > 57)) I I I) I (Af 3 I ?_))))))
 rcases bt (decide (a.2 > 57)) with o | o
 have h := Cb o h
 exact Ah 50 I o (Af 2 I (Bj I I I (qQ (C3 (m := a.1) I I I I b d e) I (Bj I I I (qQ (qZ (c := (a.2 != 45)) I I I) I (Af 1 I (qE (lg ⟨(a.2 != 45), h, I2⟩ []))))))))
 have h := Cc o h
 exact Ah 50 I o (Af 5 I (qE (lg ⟨false, h, I2⟩ [])))
 have h := Cc l h
 refine Ah 32 I l (Af 2 I (Bj I I I (qQ (C3 (m := a.1) I I I I b d e) I (Bj I I I (qQ (qZ (c := decide (a.2 > 122)) I I I) I (Af 2 I ?_))))))
 rcases bt (decide (a.2 > 122)) with t | t
 have h := Cb t h
 refine Ah 38 I t (Af 2 I (Bj I I I (qQ (C3 (m := a.1) I I I I b d e) I (Bj I I I (qQ (qZ (c := decide (a.2 < 48)) I I I) I (Af 1 I ?_))))))
 rcases bt (decide (a.2 < 48)) with u | u
 have h := Cb u h
 exact Ah 43 I u (Af 9 I (Bj I I I (qQ (C3 (m := a.1) I I I I b d e) I (Bj I I I (qQ (qZ (c := (a.2 != 45)) I I I) I (Af 1 I (qE (lg ⟨(a.2 != 45), h, I2⟩ []))))))))
 have h := Cc u h
 refine Ah 43 I u (Af 2 I (Bj I I I (qQ (C3 (m := a.1) I I I I b d e) I (Bj I I I (qQ (qZ (c := decide (a.2 > 57)) I I I) I (Af 3 I ?_))))))
 rcases bt (decide (a.2 > 57)) with w | w
 have h := Cb w h
 exact Ah 50 I w (Af 2 I (Bj I I I (qQ (C3 (m := a.1) I I I I b d e) I (Bj I I I (qQ (qZ (c := (a.2 != 45)) I I I) I (Af 1 I (qE (lg ⟨(a.2 != 45), h, I2⟩ []))))))))
 have h := Cc w h
 exact Ah 50 I w (Af 5 I (qE (lg ⟨false, h, I2⟩ [])))
 have h := Cc t h
 exact Ah 38 I t (Af 5 I (Cq I I dS (Cq I I dS (Cq I I dS (Cq I I dS (Af 8 I (qE (lg ⟨false, h, I2⟩ []))))))))
 rintro s ob ⟨B, h, rfl, rfl⟩
 refine Av h I ?_ ?_
 intro W h
 refine Ai I ?_
 obtain rfl := K _ (oi h).symm
 have h := H
 have h := Dp h
 cases io h
 exact qK pr
 intro W h
 refine qI (qD (Af 3 I ?_))
 cases io h
 exact qE ⟨_, _, _, I, I2, J2, pk []⟩
 intro S h
 obtain rfl := K _ (oi h).symm
 have h := H
 have h := Dj h
 exact qM (lg ⟨(), h, I2⟩ [])
 rintro s ob ⟨G, h, rfl, rfl⟩
 unfold Qw.J2 at h
 refine Ai I ?_
 cases io h
 exact qK pr
theorem eV (a : List Bt) (r : Bool) (h : Rg a = some r) : ACalls Al 89 [Q1 a] [] (RB r) := by
 refine Ag Tryz.func89 I I I fun C hC => ?_
 unfold Rg at h
 refine Ai I (Ak (fun s ob => ∃ (e : Unit), Rg.J1 e = some r ∧ s = [] ∧ ob = []) [] J ?_ ?_)
 refine Bk [.l 1 (a.length : Int)] I ⟨A6, J⟩ (qH (Cd 5 I fun t => ?_))
 obtain ⟨O, u, f⟩ := Ad h
 refine Cg u (K2 0 6) J2 (fun (b : Nat) (g : Unit) s ob => s = [(7, .V (b : Int))] ∧ ob = []) ⟨I, I⟩ ⟨I, J⟩ (pk []) ?_ ?_
 rintro b i g w s ob y j ⟨rfl, rfl⟩ h A
 unfold Rg.B2 at h
 have B := Cm j
 refine Ai I (Ac fun P D => Bl I B (qI ?_))
 subst D
 refine Ak (fun s ob => ∃ (m : Unit), Rg.J3 m = some w ∧ s = [] ∧ ob = []) (K3 0 6 7) J3 ?_ ?_
 refine qH (Ai I (Ai I (qH ?_)))
 obtain ⟨Q, E, n⟩ := Ad h
 refine Dm E (K4 0 3 6 7) J4 (fun (o : Int) s ob => s = [(4, .V o)] ∧ ob = []) ⟨I, I⟩ ⟨I, J⟩ (pk []) ?_
 rintro o R s ob ⟨rfl, rfl⟩ h p
 refine Ac fun S F => Ai I (Av h I ?_ ?_)
 intro G h
 refine qI ?_
 subst F
 refine qJ (qH (qJ ?_))
 obtain ⟨d, ⟨H, K⟩, h⟩ := Bc h
 refine Bv (pd 9 0 []) [] [] I (Cf 8 [.x 2 b (rS i), .x 6 d.1 (rS d.2)] I ⟨⟨H, Ae K⟩, ⟨I, Ae y⟩, J⟩ (qV I (Yp.cmpS (c := Wh i d.2) I I I) I (Ar (qE (Av h I ?_ ?_)))))
 intro M h
 refine Ai I ?_
 obtain rfl := p _ (oi h).symm
 have h := n
 have h := Dp h
 obtain rfl := A _ (oi h).symm
 have h := f
 have h := Dj h
 cases io h
 exact qK pr
 intro M h
 refine qI (qD (Af 3 I ?_))
 cases io h
 exact qE ⟨_, _, _, I, I2, J5, pk []⟩
 intro G h
 obtain rfl := p _ (oi h).symm
 have h := n
 have h := Dj h
 exact qM (lg ⟨(), h, I2⟩ [])
 rintro s ob ⟨m, h, rfl, rfl⟩
 unfold Rg.J3 at h
 refine qD (Ao 2 [.k 0 (b + 1 : Nat)] I ⟨Az j t, J⟩ ?_)
 cases io h
 exact qE ⟨_, _, _, I, I2, J3, pk []⟩
 rintro g s ob ⟨rfl, rfl⟩ he
 subst he
 have h := Dp f
 have N := Cn a.length
 exact Ai I (Ac fun U W => Bm I N (qM (lg ⟨(), h, I2⟩ [])))
 rintro s ob ⟨e, h, rfl, rfl⟩
 unfold Rg.J1 at h
 refine Ai I ?_
 cases io h
 exact qK pr
theorem dV (a : Sg) (r : Bool) (h : Qv a = some r) : ACalls Al 90 [.agg (Au a)] [] (RB r) := by
 refine Ag Tryz.func90 I I I fun C hC => ?_
 unfold Qv at h
 refine Ac fun y1 K => qD (qF [] I (Cp (Au a) 7 fun u => Af 1 I (qE ?_)))
 subst K
 refine Ac fun y3 M => Ak (fun s ob => ∃ (w : Bool), Qv.J1 a w = some r ∧ s = [(49, .v (.bool w))] ∧ ob = [O5 u [Au a]]) [(1, _)] J1 ?_ ?_
 refine Bv (pd 45 0 [8, 14, 20]) [0] [_] I (Cf 6 [.o 1 0, .o 3 0] I J2 ?_)
 rcases bt ((a.From == a.To)) with c | c
 have h := Cb c h
 exact A8 10 I c (A9 39 I (Ar (qE (lg ⟨true, h, I2⟩ [0]))))
 have h := Cc c h
 refine A8 10 I c (Cf 2 [.o 1 0] I J1 (I4 I (C8 a.Capacity 1 1000000 _ I) (A9 3 I ?_)))
 rcases bt ((!(Co a.Capacity 1 1000000))) with d | d
 have h := Cb d h
 exact A8 16 I d (A9 33 I (Ar (qE (lg ⟨true, h, I2⟩ [0]))))
 have h := Cc d h
 refine A8 16 I d (Cf 2 [.o 1 0] I J1 (I4 I (C8 a.Resist 0 1000 _ I) (A9 3 I ?_)))
 rcases bt ((!(Co a.Resist 0 1000))) with e | e
 have h := Cb e h
 exact A8 22 I e (A9 27 I (Ar (qE (lg ⟨true, h, I2⟩ [0]))))
 have h := Cc e h
 refine A8 22 I e (Cf 2 [.o 1 0] I J1 (I4 I (C8 a.Wave 0 100000 _ I) (A9 3 I ?_)))
 rcases bt ((!(Co a.Wave 0 100000))) with f | f
 have h := Cb f h
 exact A8 28 I f (A9 21 I (Ar (qE (lg ⟨true, h, I2⟩ [0]))))
 have h := Cc f h
 obtain ⟨y, ⟨N, O⟩, h⟩ := Bc h
 refine A8 28 I f (Cf 8 [.o 1 0, .x 2 y.1 (Bx y.2)] I ⟨⟨N, Ae O⟩, I, J⟩ ?_)
 rcases bt ((y.2.At != 0)) with g | g
 have h := Cb g h
 exact A8 36 I g (A9 13 I (Ar (qE (lg ⟨true, h, I2⟩ [0]))))
 have h := Cc g h
 obtain ⟨A, ⟨P, Q⟩, h⟩ := Bc h
 exact A8 36 I g (Cf 13 [.o 1 0, .o 3 0, .l 4 (a.Points.length : Int), .x 6 A.1 (Bx A.2), .o 10 0] I ⟨I, ⟨P, Ae Q⟩, A6, I, I, J⟩ (Ar (qE (lg ⟨(A.2.At != a.Capacity), h, I2⟩ [0]))))
 rintro s ob ⟨w, h, rfl, rfl⟩
 refine Av h I ?_ ?_
 intro R h
 refine Ai I (qL g0 ?_)
 cases io h
 exact qK pr
 intro R h
 refine qI ?_
 subst M
 refine Ak (fun s ob => ∃ (E : Unit), Qv.J2 E = some r ∧ s = [] ∧ ob = []) [] J ?_ ?_
 refine Bk [.o 1 0, .l 2 (a.Points.length : Int)] I ⟨A6, I, J⟩ (qH (Cd 51 I fun S => ?_))
 obtain ⟨ai, U, F⟩ := Ad h
 refine Cg U (K3 1 51 52) J3 (fun (i : Nat) (G : Unit) s ob => s = [(53, .V (i : Int))] ∧ ob = [O5 u [Au a]]) ⟨I, I⟩ ⟨I, J⟩ (pk [0]) ?_ ?_
 rintro i b G W s ob X H ⟨rfl, rfl⟩ h Y
 unfold Qv.B3 at h
 have Z := Cm H
 refine Ai I (Ac fun aj aa => Bl I Z (qI ?_))
 subst aa
 refine qJ (qH (Ac fun ak ab => qD (Ao 3 [.x 1 i (Bx b)] I ⟨⟨I, Ae X⟩, J⟩ (qF [] I (B0 [.V 0, .V 0, .V 0] 3 fun al => Af 1 I (qF [1] I (By 1 0 0 [Bx b] I (qE ?_))))))))
 subst ab
 refine Ak (fun s ob => ∃ (B : Bool), Qv.J4 B = some W ∧ s = [(83, .v (.bool B))] ∧ ob = [O5 u [Au a]]) (K4 1 51 52 53) J4 ?_ ?_
 rcases bt (decide ((i : Int) > 0)) with j | j
 have h := Cb j h
 obtain ⟨D, ⟨ac, ad⟩, h⟩ := Bc h
 refine Bv (pd 26 0 [17, 23]) [1, 0] [_, _] I (A9 3 I (A8 60 I j (Cf 12 [.o 1 0, .o 3 1, .x 6 D.1 (Bx D.2)] I ⟨⟨ac, Ae ad⟩, I, I, J⟩ ?_)))
 rcases bt (decide (b.At ≤ D.2.At)) with n | n
 have h := Cb n h
 exact A8 72 I n (A9 11 I (Ar (qE (lg ⟨true, h, I2⟩ [0]))))
 have h := Cc n h
 refine A8 72 I n (Cf 2 [.o 1 0] I J1 (I4 I (C8 b.Height (-500) 5000 _ I) (A9 3 I ?_)))
 rcases bt ((!(Co b.Height (-500) 5000))) with p | p
 have h := Cb p h
 exact A8 78 I p (A9 5 I (Ar (qE (lg ⟨true, h, I2⟩ [0]))))
 have h := Cc p h
 exact A8 78 I p (Cf 2 [.o 1 0] I J1 (I4 I (C8 b.Limit 0 100000000 _ I) (A9 2 I (Ar (qE (lg ⟨(!(Co b.Limit 0 100000000)), h, I2⟩ [0]))))))
 have h := Cc j h
 refine Bv (pd 26 0 [17, 23]) [1] [_] I (A9 3 I (A8 60 I j (Cf 14 [.o 13 0] I J1 (I4 I (C8 b.Height (-500) 5000 _ I) (A9 3 I ?_)))))
 rcases bt ((!(Co b.Height (-500) 5000))) with t | t
 have h := Cb t h
 exact A8 78 I t (A9 5 I (Ar (qE (lg ⟨true, h, I2⟩ [0]))))
 have h := Cc t h
 exact A8 78 I t (Cf 2 [.o 1 0] I J1 (I4 I (C8 b.Limit 0 100000000 _ I) (A9 2 I (Ar (qE (lg ⟨(!(Co b.Limit 0 100000000)), h, I2⟩ [0]))))))
 rintro s ob ⟨B, h, rfl, rfl⟩
 refine Av h I ?_ ?_
 intro ae h
 refine Ai I ?_
 obtain rfl := Y _ (oi h).symm
 have h := F
 have h := Dj h
 refine qL g0 ?_
 cases io h
 exact qK pr
 intro ae h
 refine qI (qD (Ao 2 [.k 0 (i + 1 : Nat)] I ⟨Az H S, J⟩ ?_))
 cases io h
 exact qE ⟨_, _, _, I, I2, J4, pk [0]⟩
 rintro G s ob ⟨rfl, rfl⟩ he
 subst he
 have h := Dp F
 have af := Cn a.Points.length
 exact Ai I (Ac fun am an => Bm I af (qM (lg ⟨(), h, I2⟩ [])))
 rintro s ob ⟨E, h, rfl, rfl⟩
 unfold Qv.J2 at h
 refine Ai I ?_
 cases io h
 exact qK pr
theorem Ui (a : Nw) (r : Int) (h : Jn a = some r) : ACalls Al 51 [.agg (Ab a)] [] (RV (.V r)) := by
 refine Ag Tryz.func51 I I I fun C hC => ?_
 unfold Jn at h
 refine Ac fun y1 bn => qD (qF [] I (Cp (Ab a) 6 fun b => Af 1 I (qE ?_)))
 subst bn
 refine Ac fun y3 bo => E9 49 ((!(Co (a.Nodes.length : Int) 1 24)) || (decide ((a.Segments.length : Int) > 32) || (decide ((a.Ports.length : Int) > 24) || decide ((a.Stations.length : Int) > 12)))) ?_ ?_
 refine qD (Ao 3 [.o 1 0, .l 2 (a.Nodes.length : Int)] I ⟨A6, I, J⟩ (qR (C8 (a.Nodes.length : Int) 1 24 _ I) (Af 2 I ?_)))
 rcases bt ((!(Co (a.Nodes.length : Int) 1 24))) with g | g
 exact Ah 32 I g (Af 17 I (qE (jf (by simp only [g, bz]) I I I2)))
 refine Ah 32 I g (Ao 6 [.o 1 0, .l 2 (a.Segments.length : Int)] I ⟨A6, I, J⟩ ?_)
 rcases bt (decide ((a.Segments.length : Int) > 32)) with j | j
 exact Ah 38 I j (Af 11 I (qE (jf (by simp only [g, j, bz]) I I I2)))
 refine Ah 38 I j (Ao 6 [.o 1 0, .l 2 (a.Ports.length : Int)] I ⟨A6, I, J⟩ ?_)
 rcases bt (decide ((a.Ports.length : Int) > 24)) with t | t
 exact Ah 44 I t (Af 5 I (qE (jf (by simp only [g, j, t, bz]) I I I2)))
 exact Ah 44 I t (Ao 5 [.o 1 0, .l 2 (a.Stations.length : Int)] I ⟨A6, I, J⟩ (qE (jf (by simp only [g, j, t, bz]) I I I2)))
 refine Av h I ?_ ?_
 intro bp h
 refine Ai I (qL g0 ?_)
 cases io h
 exact qK pr
 intro bp h
 refine qI ?_
 subst bo
 refine Ak (fun s ob => ∃ (Z : Unit), Jn.J1 a Z = some r ∧ s = [] ∧ ob = [O0 b [Ab a]]) [(1, _)] J1 ?_ ?_
 refine Bk [.o 1 0, .l 2 (a.Segments.length : Int)] I ⟨A6, I, J⟩ (qH (Cd 51 I fun bq => ?_))
 obtain ⟨e4, br, aa⟩ := Ad h
 refine Cg br (K3 1 51 52) J3 (fun (B : Nat) (ab : Unit) s ob => s = [(53, .V (B : Int))] ∧ ob = [O0 b [Ab a]]) ⟨I, I⟩ ⟨I, J⟩ (pk [0]) ?_ ?_
 rintro B D ab e5 s ob bs ac ⟨rfl, rfl⟩ h bu
 have bv := Cm ac
 refine Ai I (Ac fun e6 bw => Bl I bv (qI ?_))
 subst bw
 refine qJ (qH (qJ (qD (Ao 2 [.x 0 B (Au D)] I ⟨⟨I, Ae bs⟩, J⟩ (qF [] I (B0 W1 7 fun e7 => qF [1] I (By 1 0 0 [Au D] I (qE (qJ (qD (Ao 3 [.o 1 1, .l 2 (D.Points.length : Int)] I ⟨A6, I, J⟩ (qR (C8 (D.Points.length : Int) 2 8 _ I) (Af 1 I ?_)))))))))))))
 refine qE (Av h I ?_ ?_)
 intro bx h
 refine Ai I ?_
 obtain rfl := bu _ (oi h).symm
 have h := aa
 have h := Dj h
 refine qL g0 ?_
 cases io h
 exact qK pr
 intro bx h
 refine qI (qD (Ao 2 [.k 0 (B + 1 : Nat)] I ⟨Az ac bq, J⟩ ?_))
 cases io h
 exact qE ⟨_, _, _, I, I2, J4, pk [0]⟩
 rintro ab s ob ⟨rfl, rfl⟩ he
 subst he
 have h := Dp aa
 have b0 := Cn a.Segments.length
 exact Ai I (Ac fun e8 e9 => Bm I b0 (qM (lg ⟨(), h, I2⟩ [0])))
 rintro s ob ⟨Z, h, rfl, rfl⟩
 refine Ac fun fa b1 => ?_
 obtain ⟨f, b3, h⟩ := Ad h
 refine qD (Ao 1 [.o 0 0] I J1 (qF [] I (Bg I I I (dZ _ _ b3) dS ?_)))
 rintro _ _ ⟨rfl, rfl⟩
 refine qF [] I (B0 W2 4 fun E => qF [1] I (qT 1 0 0 (es' := [f.l.map (cL 1 rS)]) I I I I I I I (by simp [Arr.h, Am]) (by simp [Arr.h, Am]) I (congrArg (fun r => [r]) (Fq (by simp [Arr.h, Am]))) (qE ?_)))
 subst b1
 refine Ak (fun s ob => ∃ (ad : Unit), Jn.J2 a f ad = some r ∧ s = [] ∧ ob = [O0 b [Ab a], O4 E [f.l.map (cL 1 rS)]]) (K2 1 5) J2 ?_ ?_
 refine Ac fun fb b4 => qD (qN (Ck 1 0 0 I I I I I (y := .agg (f.l.map (cL 1 rS))) (G6 I (by simp [Arr.h, Am]))) I (Af 1 I (qE ?_)))
 subst b4
 refine qH ?_
 have b5 : (4 : Nat) ≤ 9223372036854775806 := by decide
 obtain ⟨fc, b6, ae⟩ := Ad h
 refine Ee b6 (K3 1 5 65) J3 (fun (F : Nat) (af : Unit) s ob => s = [(66, .V (F : Int))] ∧ ob = [O0 b [Ab a], O4 E [f.l.map (cL 1 rS)]]) ⟨I, I⟩ ⟨I, J⟩ (pk [0, 1]) ?_ ?_
 rintro F af b7 s ob b8 ⟨rfl, rfl⟩ h b9
 unfold Jn.B21 at h
 have ca : decide ((F : Int) < 4) = true := decide_eq_true (by omega)
 refine Ai I (Ac fun fd cb => Bl I ca (qI ?_))
 subst cb
 refine Ak (fun s ob => ∃ (ag : Unit), Jn.J22 ag = some b7 ∧ s = [] ∧ ob = [O0 b [Ab a], O4 E [f.l.map (cL 1 rS)]]) (K4 1 5 65 66) J4 ?_ ?_
 refine qH (Ac fun fe cc => ?_)
 obtain ⟨U, ⟨cd, ce⟩, h⟩ := Bc h
 refine qD (qQ (Hj (m := U.1) I I I I I I I cd ce (hlen := Arr.h _)) I (Af 1 I (qE ?_)))
 subst cc
 refine Bk [.l 1 (U.2.length : Int)] I ⟨A6, J⟩ (qH (Cd 69 I fun cf => ?_))
 obtain ⟨ff, cg, ah⟩ := Ad h
 refine Cg cg (K6 1 5 65 66 69 70) J6 (fun (G : Nat) (ai : Unit) s ob => s = [(71, .V (G : Int))] ∧ ob = [O0 b [Ab a], O4 E [f.l.map (cL 1 rS)]]) ⟨I, I⟩ ⟨I, J⟩ (pk [0, 1]) ?_ ?_
 rintro G ci ai fg s ob cj aj ⟨rfl, rfl⟩ h ck
 have cl := Cm aj
 refine Ai I (Ac fun fh cm => Bl I cl (qI ?_))
 subst cm
 refine qJ (qH (Bk [.x 0 G (rS ci)] I ⟨⟨I, Ae cj⟩, J⟩ (qJ ?_)))
 obtain ⟨fi, cn, h⟩ := Ad h
 refine qD (Af 1 I (qR (dY _ _ cn) (Af 1 I (qE (Av h I ?_ ?_)))))
 intro co h
 refine Ai I ?_
 obtain rfl := ck _ (oi h).symm
 have h := ah
 have h := Dj h
 obtain rfl := b9 _ (oi h).symm
 have h := ae
 have h := Dj h
 refine qL g0 ?_
 cases io h
 exact qK pr
 intro co h
 refine qI (qD (Ao 2 [.k 0 (G + 1 : Nat)] I ⟨Az aj cf, J⟩ ?_))
 cases io h
 exact qE ⟨_, _, _, I, I2, J7, pk [0, 1]⟩
 rintro ai s ob ⟨rfl, rfl⟩ he
 subst he
 have h := Dp ah
 have cp := Cn U.2.length
 exact Ai I (Ac fun fj fk => Bm I cp (qM (lg ⟨(), h, I2⟩ [0, 1])))
 rintro s ob ⟨ag, h, rfl, rfl⟩
 unfold Jn.J22 at h
 refine qD (Ao 2 [.k 0 (F + 1 : Nat)] I ⟨Az b8 b5, J⟩ ?_)
 cases io h
 exact qE ⟨_, _, _, I, I2, J4, pk [0, 1]⟩
 rintro af s ob ⟨rfl, rfl⟩ he
 subst he
 have h := Dp ae
 have cq : decide (((4 : Nat) : Int) < 4) = false := by simp
 exact Ai I (Ac fun fl fm => Bm I cq (qM (lg ⟨(), h, I2⟩ [0, 1])))
 rintro s ob ⟨ad, h, rfl, rfl⟩
 unfold Jn.J2 at h
 refine Ak (fun s ob => ∃ (ak : Unit), Jn.J3 a ak = some r ∧ s = [] ∧ ob = [O0 b [Ab a]]) [(1, _)] J1 ?_ ?_
 refine Ac fun fn cr => qD (qN (Ck 1 0 0 I I I I I (y := .agg (f.l.map (cL 1 rS))) (G6 I (by simp [Arr.h, Am]))) I (Af 1 I (qE ?_)))
 subst cr
 refine qH ?_
 have ct : (4 : Nat) ≤ 9223372036854775806 := by decide
 obtain ⟨fo, cu, al⟩ := Ad h
 refine Ee cu (K2 1 80) J2 (fun (H : Nat) (am : Unit) s ob => s = [(81, .V (H : Int))] ∧ ob = [O0 b [Ab a]]) ⟨I, I⟩ ⟨I, J⟩ (pk [0]) ?_ ?_
 rintro H am fp s ob cv ⟨rfl, rfl⟩ h cw
 have cx : decide ((H : Int) < 4) = true := decide_eq_true (by omega)
 refine Ai I (Ac fun fq cy => Bl I cx (qI ?_))
 subst cy
 refine qJ (qH (qJ ?_))
 obtain ⟨cz, ⟨c0, c1⟩, h⟩ := Bc h
 refine qD (qQ (Hj (m := cz.1) I I I I I I I c0 c1 (hlen := Arr.h _)) I (Af 1 I (qE (qJ ?_))))
 obtain ⟨fr, c2, h⟩ := Ad h
 refine qD (Af 1 I (qR (eV _ _ c2) (qE (Av h I ?_ ?_))))
 intro c3 h
 refine Ai I ?_
 obtain rfl := cw _ (oi h).symm
 have h := al
 have h := Dj h
 refine qL g0 ?_
 cases io h
 exact qK pr
 intro c3 h
 refine qI (qD (Ao 2 [.k 0 (H + 1 : Nat)] I ⟨Az cv ct, J⟩ ?_))
 cases io h
 exact qE ⟨_, _, _, I, I2, J3, pk [0]⟩
 rintro am s ob ⟨rfl, rfl⟩ he
 subst he
 have h := Dp al
 have c4 : decide (((4 : Nat) : Int) < 4) = false := by simp
 exact Ai I (Ac fun fs ft => Bm I c4 (qM (lg ⟨(), h, I2⟩ [0])))
 rintro s ob ⟨ak, h, rfl, rfl⟩
 unfold Jn.J3 at h
 refine Ak (fun s ob => ∃ (an : Unit), Jn.J4 a an = some r ∧ s = [] ∧ ob = [O0 b [Ab a]]) [(1, _)] J1 ?_ ?_
 refine Bk [.o 1 0, .l 2 (a.Stations.length : Int)] I ⟨A6, I, J⟩ (qH (Cd 88 I fun c5 => ?_))
 obtain ⟨fu, c6, ao⟩ := Ad h
 refine Cg c6 (K2 1 89) J2 (fun (K : Nat) (ap : Unit) s ob => s = [(90, .V (K : Int))] ∧ ob = [O0 b [Ab a]]) ⟨I, I⟩ ⟨I, J⟩ (pk [0]) ?_ ?_
 rintro K c7 ap c8 s ob c9 aq ⟨rfl, rfl⟩ h da
 unfold Jn.B17 at h
 have db := Cm aq
 refine Ai I (Ac fun fv dc => Bl I db (qI ?_))
 subst dc
 refine Ak (fun s ob => ∃ (ar : Unit), Jn.J18 ar = some c8 ∧ s = [] ∧ ob = [O0 b [Ab a]]) (K3 1 89 90) J3 ?_ ?_
 refine qH (Ai I (Ai I (qH ?_)))
 obtain ⟨fw, dd, au⟩ := Ad h
 refine Dm dd (K4 1 12 89 90) J4 (fun (av : Int) s ob => s = [(13, .V av)] ∧ ob = [O0 b [Ab a]]) ⟨I, I⟩ ⟨I, J⟩ (pk [0]) ?_
 rintro av fx s ob ⟨rfl, rfl⟩ h aw
 refine Ac fun fy de => Ai I (Av h I ?_ ?_)
 intro df h
 refine qI ?_
 subst de
 refine qJ (qH (qJ ?_))
 obtain ⟨ax, ⟨dg, dh⟩, h⟩ := Bc h
 refine Zw (pd 13 0 []) [0] [_] [.o 1 0, .x 3 K (Br c7), .o 7 0, .x 9 ax.1 (Br ax.2)] I I ⟨⟨dg, Ae dh⟩, I, ⟨I, Ae c9⟩, I, J⟩ (Av h I ?_ ?_)
 intro di h
 refine Ai I ?_
 obtain rfl := aw _ (oi h).symm
 have h := au
 have h := Dp h
 obtain rfl := da _ (oi h).symm
 have h := ao
 have h := Dj h
 refine qL g0 ?_
 cases io h
 exact qK pr
 intro di h
 refine qI (qD (Af 3 I ?_))
 cases io h
 exact qE ⟨_, _, _, I, I2, J5, pk [0]⟩
 intro df h
 obtain rfl := aw _ (oi h).symm
 have h := au
 have h := Dj h
 exact qM (lg ⟨(), h, I2⟩ [0])
 rintro s ob ⟨ar, h, rfl, rfl⟩
 unfold Jn.J18 at h
 refine qD (Ao 2 [.k 0 (K + 1 : Nat)] I ⟨Az aq c5, J⟩ ?_)
 cases io h
 exact qE ⟨_, _, _, I, I2, J3, pk [0]⟩
 rintro ap s ob ⟨rfl, rfl⟩ he
 subst he
 have h := Dp ao
 have dj := Cn a.Stations.length
 exact Ai I (Ac fun fz f0 => Bm I dj (qM (lg ⟨(), h, I2⟩ [0])))
 rintro s ob ⟨an, h, rfl, rfl⟩
 unfold Jn.J4 at h
 refine Bk [.o 1 0, .l 2 (a.Nodes.length : Int)] I ⟨A6, I, J⟩ (Ak (fun s ob => ∃ (ay : Unit), Jn.J5 a ay = some r ∧ s = [] ∧ ob = [O0 b [Ab a]]) (K2 1 14) J2 ?_ ?_)
 refine Bk [.o 1 0, .l 2 (a.Segments.length : Int)] I ⟨A6, I, J⟩ (qH (Cd 117 I fun dk => ?_))
 obtain ⟨f1, dl, az⟩ := Ad h
 refine Cg dl (K4 1 14 117 118) J4 (fun (M : Nat) (a0 : Unit) s ob => s = [(119, .V (M : Int))] ∧ ob = [O0 b [Ab a]]) ⟨I, I⟩ ⟨I, J⟩ (pk [0]) ?_ ?_
 rintro M i a0 f2 s ob dm a1 ⟨rfl, rfl⟩ h dn
 unfold Jn.B16 at h
 have dp := Cm a1
 refine Ai I (Ac fun f3 dq => Bl I dp (qI ?_))
 subst dq
 refine qJ (qH (Ac fun f4 dr => qD (Ao 2 [.x 0 M (Au i)] I ⟨⟨I, Ae dm⟩, J⟩ (qF [] I (B0 W1 7 fun f5 => qF [1] I (By 1 0 0 [Au i] I (qE ?_)))))))
 subst dr
 refine E9 134 ((!(Co i.From 0 (wr ((a.Nodes.length : Int) - 1)))) || (!(Co i.To 0 (wr ((a.Nodes.length : Int) - 1))))) ?_ ?_
 refine qD (Ao 3 [.o 1 1] I J1 (qR (C8 i.From 0 (wr ((a.Nodes.length : Int) - 1)) _ I) (Af 2 I ?_)))
 rcases bt ((!(Co i.From 0 (wr ((a.Nodes.length : Int) - 1))))) with u | u
 exact Ah 128 I u (Af 6 I (qE (jf (by simp only [u, bz]) I I I2)))
 exact Ah 128 I u (Ao 3 [.o 1 1] I J1 (Bj I I I (qR (C8 i.To 0 (wr ((a.Nodes.length : Int) - 1)) _ I) (Af 2 I (qE (jf (by simp only [u, bz]) I I I2))))))
 refine Av h I ?_ ?_
 intro ds h
 refine Ai I ?_
 obtain rfl := dn _ (oi h).symm
 have h := az
 have h := Dj h
 refine qL g0 ?_
 cases io h
 exact qK pr
 intro ds h
 refine qI (qD (Ao 2 [.k 0 (M + 1 : Nat)] I ⟨Az a1 dk, J⟩ ?_))
 cases io h
 exact qE ⟨_, _, _, I, I2, J5, pk [0]⟩
 rintro a0 s ob ⟨rfl, rfl⟩ he
 subst he
 have h := Dp az
 have du := Cn a.Segments.length
 exact Ai I (Ac fun f6 f7 => Bm I du (qM (lg ⟨(), h, I2⟩ [0])))
 rintro s ob ⟨ay, h, rfl, rfl⟩
 unfold Jn.J5 at h
 refine Ak (fun s ob => ∃ (a2 : Unit), Jn.J6 a a2 = some r ∧ s = [] ∧ ob = [O0 b [Ab a]]) (K2 1 14) J2 ?_ ?_
 refine Bk [.o 1 0, .l 2 (a.Ports.length : Int)] I ⟨A6, I, J⟩ (qH (Cd 137 I fun dv => ?_))
 obtain ⟨f8, dw, a3⟩ := Ad h
 refine Cg dw (K4 1 14 137 138) J4 (fun (O : Nat) (a4 : Unit) s ob => s = [(139, .V (O : Int))] ∧ ob = [O0 b [Ab a]]) ⟨I, I⟩ ⟨I, J⟩ (pk [0]) ?_ ?_
 rintro O W a4 f9 s ob dx a5 ⟨rfl, rfl⟩ h dy
 have dz := Cm a5
 refine Ai I (Ac fun ga d0 => Bl I dz (qI ?_))
 subst d0
 refine qJ (qH (qJ (qD (Ao 2 [.x 0 O (Bn W)] I ⟨⟨I, Ae dx⟩, J⟩ (qF [] I (B0 W4 3 fun gb => qF [1] I (By 1 0 0 [Bn W] I (qE (qJ (qD (Ao 3 [.o 1 1] I J1 (qR (C8 W.Node 0 (wr ((a.Nodes.length : Int) - 1)) _ I) (Af 1 I ?_)))))))))))))
 refine qE (Av h I ?_ ?_)
 intro d1 h
 refine Ai I ?_
 obtain rfl := dy _ (oi h).symm
 have h := a3
 have h := Dj h
 refine qL g0 ?_
 cases io h
 exact qK pr
 intro d1 h
 refine qI (qD (Ao 2 [.k 0 (O + 1 : Nat)] I ⟨Az a5 dv, J⟩ ?_))
 cases io h
 exact qE ⟨_, _, _, I, I2, J5, pk [0]⟩
 rintro a4 s ob ⟨rfl, rfl⟩ he
 subst he
 have h := Dp a3
 have d2 := Cn a.Ports.length
 exact Ai I (Ac fun gc gd => Bm I d2 (qM (lg ⟨(), h, I2⟩ [0])))
 rintro s ob ⟨a2, h, rfl, rfl⟩
 unfold Jn.J6 at h
 refine Ak (fun s ob => ∃ (a6 : Unit), Jn.J7 a a6 = some r ∧ s = [] ∧ ob = [O0 b [Ab a]]) [(1, _)] J1 ?_ ?_
 refine Bk [.o 1 0, .l 2 (a.Stations.length : Int)] I ⟨A6, I, J⟩ (qH (Cd 150 I fun d3 => ?_))
 obtain ⟨ge, d4, a7⟩ := Ad h
 refine Cg d4 (K4 1 14 150 151) J4 (fun (P : Nat) (a8 : Unit) s ob => s = [(152, .V (P : Int))] ∧ ob = [O0 b [Ab a]]) ⟨I, I⟩ ⟨I, J⟩ (pk [0]) ?_ ?_
 rintro P X a8 gf s ob d5 a9 ⟨rfl, rfl⟩ h d6
 have d7 := Cm a9
 refine Ai I (Ac fun gg d8 => Bl I d7 (qI ?_))
 subst d8
 refine qJ (qH (qJ (qD (Ao 2 [.x 0 P (Br X)] I ⟨⟨I, Ae d5⟩, J⟩ (qF [] I (B0 W5 5 fun gh => qF [1] I (By 1 0 0 [Br X] I (qE (qJ (qD (Ao 3 [.o 1 1] I J1 (qR (C8 X.Node 0 (wr ((a.Nodes.length : Int) - 1)) _ I) (Af 1 I ?_)))))))))))))
 refine qE (Av h I ?_ ?_)
 intro d9 h
 refine Ai I ?_
 obtain rfl := d6 _ (oi h).symm
 have h := a7
 have h := Dj h
 refine qL g0 ?_
 cases io h
 exact qK pr
 intro d9 h
 refine qI (qD (Ao 2 [.k 0 (P + 1 : Nat)] I ⟨Az a9 d3, J⟩ ?_))
 cases io h
 exact qE ⟨_, _, _, I, I2, J5, pk [0]⟩
 rintro a8 s ob ⟨rfl, rfl⟩ he
 subst he
 have h := Dp a7
 have ea := Cn a.Stations.length
 exact Ai I (Ac fun gi gj => Bm I ea (qM (lg ⟨(), h, I2⟩ [0])))
 rintro s ob ⟨a6, h, rfl, rfl⟩
 unfold Jn.J7 at h
 refine Ak (fun s ob => ∃ (ba : Unit), Jn.J8 a ba = some r ∧ s = [] ∧ ob = [O0 b [Ab a]]) [(1, _)] J1 ?_ ?_
 refine Bk [.o 1 0, .l 2 (a.Segments.length : Int)] I ⟨A6, I, J⟩ (qH (Cd 163 I fun eb => ?_))
 obtain ⟨gk, ec, bb⟩ := Ad h
 refine Cg ec (K3 1 163 164) J3 (fun (Q : Nat) (bc : Unit) s ob => s = [(165, .V (Q : Int))] ∧ ob = [O0 b [Ab a]]) ⟨I, I⟩ ⟨I, J⟩ (pk [0]) ?_ ?_
 rintro Q bd bc gl s ob ed be ⟨rfl, rfl⟩ h ee
 have ef := Cm be
 refine Ai I (Ac fun gm eg => Bl I ef (qI ?_))
 subst eg
 refine qJ (qH (qJ (qD (Ao 2 [.x 0 Q (Au bd)] I ⟨⟨I, Ae ed⟩, J⟩ (qF [] I (B0 W1 7 fun gn => qF [1] I (By 1 0 0 [Au bd] I (qE (qJ ?_)))))))))
 obtain ⟨go, eh, h⟩ := Ad h
 refine qD (Ao 1 [.o 0 1] I J1 (qR (dV _ _ eh) (Af 1 I (qE (Av h I ?_ ?_)))))
 intro ei h
 refine Ai I ?_
 obtain rfl := ee _ (oi h).symm
 have h := bb
 have h := Dj h
 refine qL g0 ?_
 cases io h
 exact qK pr
 intro ei h
 refine qI (qD (Ao 2 [.k 0 (Q + 1 : Nat)] I ⟨Az be eb, J⟩ ?_))
 cases io h
 exact qE ⟨_, _, _, I, I2, J4, pk [0]⟩
 rintro bc s ob ⟨rfl, rfl⟩ he
 subst he
 have h := Dp bb
 have ej := Cn a.Segments.length
 exact Ai I (Ac fun gp gq => Bm I ej (qM (lg ⟨(), h, I2⟩ [0])))
 rintro s ob ⟨ba, h, rfl, rfl⟩
 unfold Jn.J8 at h
 refine Ak (fun s ob => ∃ (bf : Unit), Jn.J9 a bf = some r ∧ s = [] ∧ ob = [O0 b [Ab a]]) [(1, _)] J1 ?_ ?_
 refine Bk [.o 1 0, .l 2 (a.Ports.length : Int)] I ⟨A6, I, J⟩ (qH (Cd 174 I fun ek => ?_))
 obtain ⟨gr, el, bg⟩ := Ad h
 refine Cg el (K3 1 174 175) J3 (fun (R : Nat) (bh : Unit) s ob => s = [(176, .V (R : Int))] ∧ ob = [O0 b [Ab a]]) ⟨I, I⟩ ⟨I, J⟩ (pk [0]) ?_ ?_
 rintro R Y bh gs s ob em bi ⟨rfl, rfl⟩ h en
 have eo := Cm bi
 refine Ai I (Ac fun gu ep => Bl I eo (qI ?_))
 subst ep
 refine qJ (qH (qJ (qD (Ao 2 [.x 0 R (Bn Y)] I ⟨⟨I, Ae em⟩, J⟩ (qF [] I (B0 W4 3 fun gv => qF [1] I (By 1 0 0 [Bn Y] I (qE (qJ (qD (Ao 2 [.o 1 1] I J1 (qR (C8 Y.Pressure 0 100000000 _ I) (Af 1 I ?_)))))))))))))
 refine qE (Av h I ?_ ?_)
 intro eq h
 refine Ai I ?_
 obtain rfl := en _ (oi h).symm
 have h := bg
 have h := Dj h
 refine qL g0 ?_
 cases io h
 exact qK pr
 intro eq h
 refine qI (qD (Ao 2 [.k 0 (R + 1 : Nat)] I ⟨Az bi ek, J⟩ ?_))
 cases io h
 exact qE ⟨_, _, _, I, I2, J4, pk [0]⟩
 rintro bh s ob ⟨rfl, rfl⟩ he
 subst he
 have h := Dp bg
 have er := Cn a.Ports.length
 exact Ai I (Ac fun gw gx => Bm I er (qM (lg ⟨(), h, I2⟩ [0])))
 rintro s ob ⟨bf, h, rfl, rfl⟩
 unfold Jn.J9 at h
 refine Ak (fun s ob => ∃ (bj : Unit), Jn.J10 a bj = some r ∧ s = [] ∧ ob = [O0 b [Ab a]]) [(1, _)] J1 ?_ ?_
 refine Bk [.o 1 0, .l 2 (a.Stations.length : Int)] I ⟨A6, I, J⟩ (qH (Cd 186 I fun es => ?_))
 obtain ⟨gy, et, bk⟩ := Ad h
 refine Cg et (K3 1 186 187) J3 (fun (S : Nat) (bl : Unit) s ob => s = [(188, .V (S : Int))] ∧ ob = [O0 b [Ab a]]) ⟨I, I⟩ ⟨I, J⟩ (pk [0]) ?_ ?_
 rintro S e bl gz s ob eu bm ⟨rfl, rfl⟩ h ev
 unfold Jn.B11 at h
 have ew := Cm bm
 refine Ai I (Ac fun g1 ex => Bl I ew (qI ?_))
 subst ex
 refine qJ (qH (Ac fun g2 ey => qD (Ao 2 [.x 0 S (Br e)] I ⟨⟨I, Ae eu⟩, J⟩ (qF [] I (B0 W5 5 fun g3 => qF [1] I (By 1 0 0 [Br e] I (qE ?_)))))))
 subst ey
 refine E9 207 ((!(Co e.Head 0 100000000)) || ((!(Co e.Fall 0 100000)) || (!(Co e.Suction 0 100000000)))) ?_ ?_
 refine qD (Ao 2 [.o 1 1] I J1 (qR (C8 e.Head 0 100000000 _ I) (Af 2 I ?_)))
 rcases bt ((!(Co e.Head 0 100000000))) with n | n
 exact Ah 196 I n (Af 11 I (qE (jf (by simp only [n, bz]) I I I2)))
 refine Ah 196 I n (Ao 2 [.o 1 1] I J1 (Bj I I I (qR (C8 e.Fall 0 100000 _ I) (Af 3 I ?_))))
 rcases bt ((!(Co e.Fall 0 100000))) with w | w
 exact Ah 202 I w (Af 5 I (qE (jf (by simp only [n, w, bz]) I I I2)))
 exact Ah 202 I w (Ao 2 [.o 1 1] I J1 (Bj I I I (qR (C8 e.Suction 0 100000000 _ I) (Af 2 I (qE (jf (by simp only [n, w, bz]) I I I2))))))
 refine Av h I ?_ ?_
 intro ez h
 refine Ai I ?_
 obtain rfl := ev _ (oi h).symm
 have h := bk
 have h := Dj h
 refine qL g0 ?_
 cases io h
 exact qK pr
 intro ez h
 refine qI (qD (Ao 2 [.k 0 (S + 1 : Nat)] I ⟨Az bm es, J⟩ ?_))
 cases io h
 exact qE ⟨_, _, _, I, I2, J4, pk [0]⟩
 rintro bl s ob ⟨rfl, rfl⟩ he
 subst he
 have h := Dp bk
 have e0 := Cn a.Stations.length
 exact Ai I (Ac fun g4 g5 => Bm I e0 (qM (lg ⟨(), h, I2⟩ [0])))
 rintro s ob ⟨bj, h, rfl, rfl⟩
 unfold Jn.J10 at h
 refine qJ (E9 218 ((!(Co a.Vapour (-100000) 100000000)) || (!(Co a.Settle 0 100))) ?_ ?_)
 refine qD (Ao 2 [.o 1 0] I J1 (qR (C8 a.Vapour (-100000) 100000000 _ I) (Af 2 I ?_)))
 rcases bt ((!(Co a.Vapour (-100000) 100000000))) with A | A
 exact Ah 213 I A (Af 5 I (qE (jf (by simp only [A, bz]) I I I2)))
 exact Ah 213 I A (Ao 2 [.o 1 0] I J1 (Bj I I I (qR (C8 a.Settle 0 100 _ I) (Af 2 I (qE (jf (by simp only [A, bz]) I I I2))))))
 refine Av h I ?_ ?_
 intro e1 h
 refine Ai I (qL g0 ?_)
 cases io h
 exact qK pr
 intro e1 h
 refine qI (Ai I (qL g0 ?_))
 cases io h
 exact qK pr
theorem Ov (a : Sg) (b : Int) (r : Int × Int) (h : Ik a b = r) : ACalls Al 58 [.agg (Au a), .V b] [] (RV (.tup [.V r.1, .V r.2])) := by
 refine Ag Tryz.func58 I I I fun C hC => ?_
 refine Ac fun e c => qD (qF [] I (Cp (Au a) 7 fun f => Af 2 I (qE ?_)))
 subst c
 refine qJ (Ai I (Av h I ?_ ?_))
 intro d h
 refine Tc (pd 6 0 []) [0] [_] [.o 1 0, .o 3 0] I I J2 (qL g0 ?_)
 obtain rfl := h
 exact qK ⟨.inr I, [_, _], [], J2, Cv, I2⟩
 intro d h
 refine qI (Tc (pd 6 0 []) [0] [_] [.o 1 0, .o 3 0] I I J2 (qL g0 ?_))
 obtain rfl := h
 exact qK ⟨.inr I, [_, _], [], J2, Cv, I2⟩
theorem eG (d : Nw) (e : Plan) (n : Int) (r : Int × Int) (h : Qz d e n = some r) : ACalls Al 100 [.agg (Ab d), .agg (Aj e), .V n] [] (RV (.tup [.V r.1, .V r.2])) := by
 refine Ag Tryz.func100 I I I fun C hC => ?_
 unfold Qz at h
 refine Ac fun y1 Q => qD (qF [] I (Cp (Ab d) 6 fun p => qF [] I (Cp (Aj e) 3 fun g => Af 2 I (qE ?_))))
 subst Q
 refine Ai I (Ak (fun s ob => ∃ (t : Int × Int), Qz.J1 d e n t = some r ∧ s = [(8, .V t.1), (9, .V t.2)] ∧ ob = [O0 p [Ab d], O1 g [Aj e]]) (K3 2 3 4) J3 ?_ ?_)
 refine Bk [.o 1 0, .l 2 (d.Segments.length : Int)] I ⟨A6, I, J⟩ (qH (Cd 17 I fun R => ?_))
 obtain ⟨ar, S, U⟩ := Ad h
 refine Cr S (K5 2 3 4 17 18) J5 (fun (u : Nat) (b : Int × Int) s ob => s = [(19, .V (u : Int)), (8, .V b.1), (9, .V b.2)] ∧ ob = [O0 p [Ab d], O1 g [Aj e]]) ⟨I, I⟩ ⟨I, I, I, J⟩ (pk [0, 1]) ?_ ?_
 rintro u w b G s ob W H ⟨rfl, rfl⟩ h
 unfold Qz.B5 at h
 have X := Cm H
 refine Ai I (Ac fun au Y => Bl I X (qI ?_))
 subst Y
 refine Ak (fun s ob => ∃ (y : Int × Int), Qz.J6 y = some G ∧ s = [(8, .V y.1), (9, .V y.2)] ∧ ob = [O0 p [Ab d], O1 g [Aj e]]) (K6 2 3 4 17 18 19) J6 ?_ ?_
 refine qH (Ac fun av Z => qD (Ao 3 [.x 1 u (Au w)] I ⟨⟨I, Ae W⟩, J⟩ (qF [] I (B0 W1 7 fun aw => Af 1 I (qF [2] I (By 2 0 0 [Au w] I (qE ?_)))))))
 subst Z
 refine Ac fun ax aa => qJ ?_
 obtain ⟨a, ⟨A, B⟩, h⟩ := Bc h
 refine Lb [.o 1 1, .x 3 a.1 (rI a.2)] I ⟨⟨A, Ae B⟩, I, J⟩ (Av h I ?_ ?_)
 intro ab h
 exact qM (lg ⟨(b.1, b.2), h, I2⟩ [0, 1])
 intro ab h
 refine qI ?_
 subst aa
 refine Ac fun ay ac => Bv (pd 12 0 [6]) [2, 1] [_, _] I (Cf 6 [.o 0 0, .o 2 1, .x 4 a.1 (rI a.2)] I ⟨⟨A, Ae B⟩, I, I, J⟩ (rD I (Ov w a.2 _ I) (A9 5 I (Ar (qE ?_)))))
 subst ac
 refine Ak (fun s ob => ∃ (j : Int), Qz.J7 n w b a j = some G ∧ s = [(9, .V j)] ∧ ob = [O0 p [Ab d], O1 g [Aj e]]) (K9 2 3 4 8 10 13 17 18 19) J9 ?_ ?_
 refine Ai I (Av h I ?_ ?_)
 intro ad h
 exact qD (Ao 6 [.o 2 1, .x 4 a.1 (rI a.2)] I ⟨⟨A, Ae B⟩, I, J⟩ (qR (Oq a.2 _ I) (Af 2 I (qE (lg ⟨wr (b.2 + (Gn a.2)), h, I2⟩ [0, 1])))))
 intro ad h
 exact qI (lg ⟨b.2, h, I2⟩ [0, 1])
 rintro s ob ⟨j, h, rfl, rfl⟩
 refine Ai I (Av h I ?_ ?_)
 intro ae h
 exact qD (Ao 6 [.o 2 1, .x 4 a.1 (rI a.2)] I ⟨⟨A, Ae B⟩, I, J⟩ (qR (Oq a.2 _ I) (Af 2 I (qE (lg ⟨(wr (b.1 + (Gn a.2)), j), h, I2⟩ [0, 1])))))
 intro ae h
 exact qI (lg ⟨(b.1, j), h, I2⟩ [0, 1])
 rintro s ob ⟨y, h, rfl, rfl⟩
 unfold Qz.J6 at h
 refine qD (Ao 2 [.k 0 (u + 1 : Nat)] I ⟨Az H R, J⟩ ?_)
 cases io h
 exact qE (lg I2 [0, 1])
 rintro b s ob ⟨rfl, rfl⟩ he
 subst he
 have h := U
 have af := Cn d.Segments.length
 exact Ai I (Ac fun az a0 => Bm I af (qM (lg ⟨(b.1, b.2), h, I2⟩ [0, 1])))
 rintro s ob ⟨t, h, rfl, rfl⟩
 unfold Qz.J1 at h
 refine Ak (fun s ob => ∃ (D : Int × Int), Qz.J2 D = some r ∧ s = [(8, .V D.1), (9, .V D.2)] ∧ ob = []) [] J ?_ ?_
 refine Bk [.o 1 0, .l 2 (d.Ports.length : Int)] I ⟨A6, I, J⟩ (qH (Cd 64 I fun ag => ?_))
 obtain ⟨a1, ah, ai⟩ := Ad h
 refine Cr ah (K4 2 4 64 65) J4 (fun (E : Nat) (f : Int × Int) s ob => s = [(66, .V (E : Int)), (8, .V f.1), (9, .V f.2)] ∧ ob = [O1 g [Aj e]]) ⟨I, I⟩ ⟨I, I, I, J⟩ (pk [1]) ?_ ?_
 rintro E K f aj s ob ak M ⟨rfl, rfl⟩ h
 unfold Qz.B3 at h
 have al := Cm M
 refine Ai I (Ac fun a2 am => Bl I al (qI ?_))
 subst am
 refine Ak (fun s ob => ∃ (F : Int × Int), Qz.J4 F = some aj ∧ s = [(8, .V F.1), (9, .V F.2)] ∧ ob = [O1 g [Aj e]]) (K5 2 4 64 65 66) J5 ?_ ?_
 refine qH (Ac fun a3 an => qD (Ao 3 [.x 1 E (Bn K)] I ⟨⟨I, Ae ak⟩, J⟩ (qF [] I (B0 W4 3 fun a4 => Af 1 I (qF [1] I (By 1 0 0 [Bn K] I (qE ?_)))))))
 subst an
 refine Bk [.o 1 1] I J1 (Av h I ?_ ?_)
 intro ao h
 obtain ⟨i, ⟨O, P⟩, h⟩ := Bc h
 exact Zw (pd 19 0 []) [0] [_] [.o 2 0, .x 4 i.1 (rI i.2), .o 10 0, .x 12 i.1 (rI i.2)] I I ⟨⟨O, Ae P⟩, I, ⟨O, Ae P⟩, I, J⟩ (lg ⟨(wr (f.1 + (max 0 i.2)), wr (f.2 + (max 0 (wr (0 - i.2))))), h, I2⟩ [0])
 intro ao h
 exact qI (lg ⟨(f.1, f.2), h, I2⟩ [0])
 rintro s ob ⟨F, h, rfl, rfl⟩
 unfold Qz.J4 at h
 refine qD (Ao 2 [.k 0 (E + 1 : Nat)] I ⟨Az M ag, J⟩ ?_)
 cases io h
 exact qE (lg I2 [0])
 rintro f s ob ⟨rfl, rfl⟩ he
 subst he
 have h := ai
 have ap := Cn d.Ports.length
 exact Ai I (Ac fun a5 a6 => Bm I ap (qM (lg ⟨(f.1, f.2), h, I2⟩ [])))
 rintro s ob ⟨D, h, rfl, rfl⟩
 unfold Qz.J2 at h
 refine Ai I ?_
 cases io h
 exact qK ⟨.inr I, [_, _], [], J2, Cv, I2⟩
theorem Us (b : Nw) (g : Plan) (r : Li) (h : Jt b g = some r) : ACalls Al 97 [.agg (Ab b), .agg (Aj g)] [] (fun x new => ∃ (R : Value), x = .v R ∧ new = [U0 R r]) := by
 refine Ag Tryz.func97 I I I fun C hC => ?_
 refine Ac fun y1 ad => qD (qF [] I (Cp (Ab b) 6 fun i => qF [] I (Cp (Aj g) 3 fun j => Af 1 I (qE ?_))))
 subst ad
 refine Ai I (Ac fun y5 ae => ?_)
 obtain ⟨l6, ⟨m8, af, ag, ah⟩, h⟩ := G0 h
 refine qD (Ao 3 [.o 1 0, .l 2 (b.Nodes.length : Int)] I ⟨A6, I, J⟩ (qF [] I (Dg (sz := 1) I I I I I I I I I I af ag (Mi (f := rB) ah I) dS fun n => Af 1 I (qE ?_))))
 subst ae
 refine qH (qL (Ay 3 1) ?_)
 obtain ⟨bj, ai, aj⟩ := Ad h
 refine Dm ai (K3 2 3 6) J3 (fun (a : Li × (List Bool)) s ob => ∃ (e : Value), s = [(5, .v e)] ∧ ob = [O0 i [Ab b], O1 j [Aj g], U3 n a.2, U0 e a.1]) ⟨nS, I2⟩ ⟨I, J⟩ (pk N4) ?_
 rintro a ak s ob ⟨e, rfl, rfl⟩ h al
 unfold Jt.B1 at h
 refine qH (Ai I (Ak (fun s ob => ∃ (G : Int), Jt.J2 a G = some ak ∧ s = [(7, .V G)] ∧ ob = [O0 i [Ab b], O1 j [Aj g], U3 n a.2, U0 e a.1]) (K4 2 3 5 6) J4 ?_ ?_))
 refine Bk [.o 1 0, .l 2 (b.Nodes.length : Int)] I ⟨A6, I, J⟩ (qH (Cd 19 I fun am => ?_))
 obtain ⟨bk, an, ao⟩ := Ad h
 refine Cr an (K5 2 3 5 6 20) J5 (fun (u : Nat) (p : Int) s ob => s = [(21, .V (u : Int)), (7, .V p)] ∧ ob = [O0 i [Ab b], O1 j [Aj g], U3 n a.2, U0 e a.1]) ⟨I, I⟩ ⟨I, I, J⟩ (pk N4) ?_ ?_
 rintro u bl p S s ob bm U ⟨rfl, rfl⟩ h
 unfold Jt.B3 at h
 have aq := Cm U
 refine Ai I (Ac fun bn ar => Bl I aq (qI ?_))
 subst ar
 refine Ak (fun s ob => ∃ (O : Int), Jt.J4 O = some S ∧ s = [(7, .V O)] ∧ ob = [O0 i [Ab b], O1 j [Aj g], U3 n a.2, U0 e a.1]) (K6 2 3 5 6 20 21) J6 ?_ ?_
 refine qH (Ai I (Ac fun bo au => ?_))
 obtain ⟨P, ⟨av, W⟩, h⟩ := Bc h
 refine qD (Af 2 I (qN (Bb 2 (m := P.1) I I I I I I I av (Ae W)) I (qN (Ax 2 P.1 0 I I I (Ae W) I (y := .v (.bool P.2)) I) I (Af 2 I (qE ?_)))))
 subst au
 refine Ak (fun s ob => ∃ (B : Bool), Jt.J5 u p B = some S ∧ s = [(9, .v (.bool B))] ∧ ob = [O0 i [Ab b], O1 j [Aj g], U3 n a.2, U0 e a.1]) (K8 2 3 5 6 7 8 20 21) J8 ?_ ?_
 refine Bk [.o 1 0, .l 2 (b.Segments.length : Int)] I ⟨A6, I, J⟩ (qH (Cd 30 I fun aw => ?_))
 obtain ⟨bp, ax, ay⟩ := Ad h
 refine Cr ax (pT 2 3 5 6 7 8 20 21 30 31) pE (fun (H : Nat) (w : Bool) s ob => s = [(32, .V (H : Int)), (9, .v (.bool w))] ∧ ob = [O0 i [Ab b], O1 j [Aj g], U3 n a.2, U0 e a.1]) ⟨I, I⟩ ⟨I, I, J⟩ (pk N4) ?_ ?_
 rintro H K w az s ob a0 X ⟨rfl, rfl⟩ h
 unfold Jt.B6 at h
 have a1 := Cm X
 refine Ai I (Ac fun bq a2 => Bl I a1 (qI ?_))
 subst a2
 refine Ak (fun s ob => ∃ (Q : Bool), Jt.J7 Q = some az ∧ s = [(9, .v (.bool Q))] ∧ ob = [O0 i [Ab b], O1 j [Aj g], U3 n a.2, U0 e a.1]) [(2, _), (3, _), (5, _), (6, _), (7, _), (8, _), (20, _), (21, _), (30, _), (31, _), (32, _)] nN ?_ ?_
 refine qH (Ac fun br a3 => qD (Ao 3 [.x 1 H (Au K)] I ⟨⟨I, Ae a0⟩, J⟩ (qF [] I (B0 W1 7 fun bs => Af 1 I (qF [4] I (By 4 0 0 [Au K] I (qE ?_)))))))
 subst a3
 refine Ac fun bu a4 => ?_
 obtain ⟨A, ⟨Y, Z⟩, h⟩ := Bc h
 refine Lb [.o 1 1, .x 3 A.1 (rI A.2)] I ⟨⟨Y, Ae Z⟩, I, J⟩ ?_
 subst a4
 refine Av h I ?_ ?_
 intro a5 h
 refine Ac fun bv a6 => Bv (pd 12 0 [6]) [4, 1] [_, _] I (Cf 6 [.o 0 0, .o 2 1, .x 4 A.1 (rI A.2)] I ⟨⟨Y, Ae Z⟩, I, I, J⟩ (rD I (Ov K A.2 _ I) (A9 5 I (Ar (qE ?_)))))
 subst a6
 refine qD (Af 2 I ?_)
 rcases bt (w) with D | D
 have h := Cb D h
 refine Ah 54 I D ?_
 rcases bt ((((Ik K A.2).2) != (u : Int))) with E | E
 have h := Cb E h
 exact Af 4 I (Ah 58 I E (Af 7 I (qE (lg ⟨true, h, I2⟩ N4))))
 have h := Cc E h
 obtain ⟨M, ⟨a7, aa⟩, h⟩ := Bc h
 exact Af 4 I (Ah 58 I E (Af 2 I (Bj I I I (qN (Bb 2 (m := M.1) I I I I I I I a7 (Ae aa)) I (Bj I I I (qN (Ax 2 M.1 0 I I I (Ae aa) I (y := .v (.bool M.2)) I) I (Af 3 I (qE (lg ⟨M.2, h, I2⟩ N4)))))))))
 have h := Cc D h
 exact Ah 54 I D (Af 4 I (Cq I I dS (Cq I I dS (Cq I I dS (Cq I I dS (Af 3 I (qE (lg ⟨false, h, I2⟩ N4))))))))
 intro a5 h
 exact qI (lg ⟨w, h, I2⟩ N4)
 rintro s ob ⟨Q, h, rfl, rfl⟩
 unfold Jt.J7 at h
 refine qD (Ao 2 [.k 0 (H + 1 : Nat)] I ⟨Az X aw, J⟩ ?_)
 cases io h
 exact qE (lg I2 N4)
 rintro w s ob ⟨rfl, rfl⟩ he
 subst he
 have h := ay
 have a8 := Cn b.Segments.length
 exact Ai I (Ac fun bw bx => Bm I a8 (qM (lg ⟨w, h, I2⟩ N4)))
 rintro s ob ⟨B, h, rfl, rfl⟩
 unfold Jt.J5 at h
 refine E9 70 (B && decide (p < 0)) ?_ ?_
 refine qD (Af 2 I ?_)
 rcases bt (B) with F | F
 exact Ah 67 I F (Af 3 I (qE (jf (by simp only [F, bz]) I I I2)))
 exact Ah 67 I F (Af 3 I (qE (jf (by simp only [F, bz]) I I I2)))
 refine Av h I ?_ ?_
 intro a9 h
 exact Uz I (lg ⟨(u : Int), h, I2⟩ N4)
 intro a9 h
 exact qI (lg ⟨p, h, I2⟩ N4)
 rintro s ob ⟨O, h, rfl, rfl⟩
 unfold Jt.J4 at h
 refine qD (Ao 2 [.k 0 (u + 1 : Nat)] I ⟨Az U am, J⟩ ?_)
 cases io h
 exact qE (lg I2 N4)
 rintro p s ob ⟨rfl, rfl⟩ he
 subst he
 have h := ao
 have ba := Cn b.Nodes.length
 exact Ai I (Ac fun b0 b1 => Bm I ba (qM (lg ⟨p, h, I2⟩ N4)))
 rintro s ob ⟨G, h, rfl, rfl⟩
 refine qJ (Ai I (Av h I ?_ ?_))
 intro bb h
 refine Ai I ?_
 obtain rfl := al _ (oi h).symm
 have h := aj
 refine Dd [3] I ?_
 obtain rfl := oi h
 exact qK ⟨.inr I, [_], [U0 e a.1], J1, Ca I (Cv), ⟨e, I2⟩⟩
 intro bb h
 refine qI (qJ ?_)
 obtain ⟨b4, bc, h⟩ := Ad h
 refine qD (Af 2 I (qF [] I (qO 1 (([G] : Li).map rI) (qF [3] I (qU 3 I bc fun bd => Af 1 I (qE ?_))))))
 obtain ⟨ab, ⟨be, ac⟩, h⟩ := Bc h
 refine qD (Af 2 I (qN (Bb 2 (m := ab.1) I I I I I I I be (Ae ac)) I (qF [2] I (Bh 2 ab.1 0 I I I (Ae ac) I I I I (Be I) I (Cj (x := true) I) ?_))))
 cases io h
 exact qE ⟨_, _, _, I, ⟨bd, I2⟩, J4, pk N4⟩
theorem T2 (b : Nw) (a : Plan) (r : Int) (h : Lp b a = some r) : ACalls Al 67 [.agg (Ab b), .agg (Aj a)] [] (RV (.V r)) := by
 refine Ag Tryz.func67 I I I fun C hC => ?_
 refine Ac fun y1 Q => qD (qF [] I (Cp (Ab b) 6 fun d => qF [] I (Cp (Aj a) 3 fun e => Af 1 I (qE ?_))))
 subst Q
 refine Ac fun y4 R => qJ ?_
 obtain ⟨r5, S, h⟩ := Ad h
 refine qD (Ao 1 [.o 0 0] I J1 (qR (Ui _ _ S) (Af 1 I (qE (Ai I (Av h I ?_ ?_))))))
 intro U h
 refine Ai I (qL g0 ?_)
 cases io h
 exact qK pr
 intro U h
 refine qI ?_
 subst R
 refine Ac fun y8 W => E9 43 (((a.Rates.length : Int) != (b.Segments.length : Int)) || (((a.Ports.length : Int) != (b.Ports.length : Int)) || ((a.Pumps.length : Int) != (b.Stations.length : Int)))) ?_ ?_
 refine qD (Ao 8 [.o 1 1, .l 2 (a.Rates.length : Int), .o 4 0, .l 5 (b.Segments.length : Int)] I ⟨A6, I, A6, I, J⟩ ?_)
 rcases bt (((a.Rates.length : Int) != (b.Segments.length : Int))) with f | f
 exact Ah 26 I f (Af 17 I (qE (jf (by simp only [f, bz]) I I I2)))
 refine Ah 26 I f (Ao 9 [.o 1 1, .l 2 (a.Ports.length : Int), .o 4 0, .l 5 (b.Ports.length : Int)] I ⟨A6, I, A6, I, J⟩ ?_)
 rcases bt (((a.Ports.length : Int) != (b.Ports.length : Int))) with g | g
 exact Ah 35 I g (Af 8 I (qE (jf (by simp only [f, g, bz]) I I I2)))
 exact Ah 35 I g (Ao 8 [.o 1 1, .l 2 (a.Pumps.length : Int), .o 4 0, .l 5 (b.Stations.length : Int)] I ⟨A6, I, A6, I, J⟩ (qE (jf (by simp only [f, g, bz]) I I I2)))
 refine Av h I ?_ ?_
 intro X h
 refine Ai I (qL g0 ?_)
 cases io h
 exact qK pr
 intro X h
 refine qI ?_
 subst W
 refine Ak (fun s ob => ∃ (A : Unit), Lp.J1 b a A = some r ∧ s = [] ∧ ob = [O0 d [Ab b], O1 e [Aj a]]) (K2 2 3) J2 ?_ ?_
 refine Bk [.o 1 1, .l 2 (a.Rates.length : Int)] I ⟨A6, I, J⟩ (qH (Cd 45 I fun Y => ?_))
 obtain ⟨a7, Z, B⟩ := Ad h
 refine Cg Z (K4 2 3 45 46) J4 (fun (p : Nat) (D : Unit) s ob => s = [(47, .V (p : Int))] ∧ ob = [O0 d [Ab b], O1 e [Aj a]]) ⟨I, I⟩ ⟨I, J⟩ (pk [0, 1]) ?_ ?_
 rintro p t D a8 s ob aa E ⟨rfl, rfl⟩ h ab
 have ac := Cm E
 refine Ai I (Ac fun a9 ad => Bl I ac (qI ?_))
 subst ad
 refine qJ (qH (Bk [.x 1 p (rI t)] I ⟨⟨I, Ae aa⟩, J⟩ (Ac fun ba ae => ?_)))
 obtain ⟨i, ⟨af, ag⟩, h⟩ := Bc h
 refine Lb [.o 1 0, .x 3 i.1 (Au i.2)] I ⟨⟨af, Ae ag⟩, I, J⟩ ?_
 subst ae
 refine E9 67 (decide (t < (wr (0 - (min 1000 i.2.Capacity)))) || decide (t > (min 1000 i.2.Capacity))) ?_ ?_
 refine qD (Af 5 I ?_)
 rcases bt (decide (t < (wr (0 - (min 1000 i.2.Capacity))))) with j | j
 exact Ah 63 I j (Af 4 I (qE (jf (by simp only [j, bz]) I I I2)))
 exact Ah 63 I j (Af 4 I (qE (jf (by simp only [j, bz]) I I I2)))
 refine Av h I ?_ ?_
 intro ah h
 refine Ai I ?_
 obtain rfl := ab _ (oi h).symm
 have h := B
 have h := Dj h
 refine qL g0 ?_
 cases io h
 exact qK pr
 intro ah h
 refine qI (qD (Ao 2 [.k 0 (p + 1 : Nat)] I ⟨Az E Y, J⟩ ?_))
 cases io h
 exact qE ⟨_, _, _, I, I2, J5, pk [0, 1]⟩
 rintro D s ob ⟨rfl, rfl⟩ he
 subst he
 have h := Dp B
 have ai := Cn a.Rates.length
 exact Ai I (Ac fun bb bc => Bm I ai (qM (lg ⟨(), h, I2⟩ [0, 1])))
 rintro s ob ⟨A, h, rfl, rfl⟩
 unfold Lp.J1 at h
 refine Ak (fun s ob => ∃ (F : Unit), Lp.J2 b a F = some r ∧ s = [] ∧ ob = [O0 d [Ab b], O1 e [Aj a]]) (K2 2 3) J2 ?_ ?_
 refine Bk [.o 1 1, .l 2 (a.Ports.length : Int)] I ⟨A6, I, J⟩ (qH (Cd 70 I fun aj => ?_))
 obtain ⟨bd, ak, G⟩ := Ad h
 refine Cg ak (K4 2 3 70 71) J4 (fun (u : Nat) (H : Unit) s ob => s = [(72, .V (u : Int))] ∧ ob = [O0 d [Ab b], O1 e [Aj a]]) ⟨I, I⟩ ⟨I, J⟩ (pk [0, 1]) ?_ ?_
 rintro u w H be s ob al K ⟨rfl, rfl⟩ h am
 unfold Lp.B5 at h
 have an := Cm K
 refine Ai I (Ac fun bf ao => Bl I an (qI ?_))
 subst ao
 refine qJ (qH (Bk [.x 0 u (rI w)] I ⟨⟨I, Ae al⟩, J⟩ (E9 81 (decide (w < (-1000)) || decide (w > 1000)) ?_ ?_)))
 refine qD (Af 3 I ?_)
 rcases bt (decide (w < (-1000))) with n | n
 exact Ah 78 I n (Af 3 I (qE (jf (by simp only [n, bz]) I I I2)))
 exact Ah 78 I n (Af 3 I (qE (jf (by simp only [n, bz]) I I I2)))
 refine Av h I ?_ ?_
 intro ap h
 refine Ai I ?_
 obtain rfl := am _ (oi h).symm
 have h := G
 have h := Dj h
 refine qL g0 ?_
 cases io h
 exact qK pr
 intro ap h
 refine qI (qD (Ao 2 [.k 0 (u + 1 : Nat)] I ⟨Az K aj, J⟩ ?_))
 cases io h
 exact qE ⟨_, _, _, I, I2, J5, pk [0, 1]⟩
 rintro H s ob ⟨rfl, rfl⟩ he
 subst he
 have h := Dp G
 have aq := Cn a.Ports.length
 exact Ai I (Ac fun bg bh => Bm I aq (qM (lg ⟨(), h, I2⟩ [0, 1])))
 rintro s ob ⟨F, h, rfl, rfl⟩
 unfold Lp.J2 at h
 refine Ak (fun s ob => ∃ (M : Unit), Lp.J3 b a M = some r ∧ s = [] ∧ ob = [O0 d [Ab b], O1 e [Aj a]]) (K2 2 3) J2 ?_ ?_
 refine Bk [.o 1 0, .l 2 (b.Nodes.length : Int)] I ⟨A6, I, J⟩ (qH (Cd 84 I fun ar => ?_))
 obtain ⟨bi, au, N⟩ := Ad h
 refine Cg au (K3 2 3 85) J3 (fun (y : Nat) (O : Unit) s ob => s = [(86, .V (y : Int))] ∧ ob = [O0 d [Ab b], O1 e [Aj a]]) ⟨I, I⟩ ⟨I, J⟩ (pk [0, 1]) ?_ ?_
 rintro y bj O bk s ob bl P ⟨rfl, rfl⟩ h av
 have aw := Cm P
 refine Ai I (Ac fun bm ax => Bl I aw (qI ?_))
 subst ax
 refine qJ (qH (Ai I (qJ ?_)))
 obtain ⟨bn, ay, h⟩ := Ad h
 refine qD (Ao 3 [.o 0 0, .o 1 1] I J2 (qR (eG _ _ _ _ ay) (Af 5 I (qE (Ai I (Av h I ?_ ?_))))))
 intro az h
 refine Ai I ?_
 obtain rfl := av _ (oi h).symm
 have h := N
 have h := Dj h
 refine qL g0 ?_
 cases io h
 exact qK pr
 intro az h
 refine qI (qD (Ao 2 [.k 0 (y + 1 : Nat)] I ⟨Az P ar, J⟩ ?_))
 cases io h
 exact qE ⟨_, _, _, I, I2, J4, pk [0, 1]⟩
 rintro O s ob ⟨rfl, rfl⟩ he
 subst he
 have h := Dp N
 have a0 := Cn b.Nodes.length
 exact Ai I (Ac fun bo bp => Bm I a0 (qM (lg ⟨(), h, I2⟩ [0, 1])))
 rintro s ob ⟨M, h, rfl, rfl⟩
 refine qJ (qJ ?_)
 obtain ⟨bq, a1, h⟩ := Ad h
 refine Bv (.still 0 (.still 1 (sl 3 4 (.act 2 (.act 3 (.still 7 .nil)))))) [0, 1] [_, _] I (Cf 5 [.o 0 0, .o 1 1, .o 3 0, .l 4 (b.Nodes.length : Int)] I ⟨A6, I, I, I, J⟩ (qG [] I I I (Bg I I I (Us _ _ _ a1) dS ?_)))
 rintro _ _ ⟨br, rfl, rfl⟩
 refine qG [] I I I (Ba (Bu 2 I I I I) dS (A9 1 I (Ar (qE (Av h I ?_ ?_)))))
 intro a2 h
 refine Ai I (qL g0 ?_)
 cases io h
 exact qK pr
 intro a2 h
 refine qI (Ai I (qL g0 ?_))
 cases io h
 exact qK pr
theorem eC (a : Nw) (b : Plan) (r : Li × Int) (h : Vq a b = some r) : ACalls Al 57 [.agg (Ab a), .agg (Aj b)] [] (fun x new => ∃ (d : Value), x = .tup [.v d, .V r.2] ∧ new = [U0 d r.1]) := by
 refine Ag Tryz.func57 I I I fun C hC => ?_
 refine Ac fun l f => qD (qF [] I (Cp (Ab a) 6 fun n => qF [] I (Cp (Aj b) 3 fun p => Af 2 I (qE ?_))))
 subst f
 refine qJ (qJ ?_)
 obtain ⟨s, g, h⟩ := Ad h
 refine qD (Ao 2 [.o 0 0, .o 1 1] I J2 (qR (T2 _ _ _ g) (Af 1 I (qE (Ai I (Av h I ?_ ?_))))))
 intro i h
 refine Ai I (qL (Ay 3 1) (Dd [2] I ?_))
 cases io h
 exact qK ⟨.inr I, [_, _], [.us nS 3 1 ([].map rI)], J2, Ca I (Cv), ⟨nS, I2⟩⟩
 intro i h
 refine qI (qJ ?_)
 obtain ⟨j, k, h⟩ := Ad h
 refine qD (Ao 2 [.o 0 0, .o 1 1] I J2 (qF [] I (Bg I I I (Us _ _ _ k) dS ?_)))
 rintro _ _ ⟨e, rfl, rfl⟩
 refine Af 2 I (qE (Dd [2] I ?_))
 cases io h
 exact qK ⟨.inr I, [_, _], [U0 e j], J2, Ca I (Cv), ⟨e, I2⟩⟩
theorem Om (a : List Piece) (r : Int) (h : Lo a = some r) : ACalls Al 53 [Q3 a] [] (RV (.V r)) := by
 refine Ag Tryz.func53 I I I fun C hC => ?_
 unfold Lo at h
 refine Ai I (Ai I (Ak (fun s ob => ∃ (d : Int), Lo.J1 d = some r ∧ s = [(3, .V d)] ∧ ob = []) [] J ?_ ?_))
 refine Bk [.l 1 (a.length : Int)] I ⟨A6, J⟩ (qH (Cd 5 I fun f => ?_))
 obtain ⟨q, g, i⟩ := Ad h
 refine Cr g (K2 0 6) J2 (fun (b : Nat) (c : Int) s ob => s = [(7, .V (b : Int)), (3, .V c)] ∧ ob = []) ⟨I, I⟩ ⟨I, I, J⟩ (pk []) ?_ ?_
 rintro b j c t s ob m e ⟨rfl, rfl⟩ h
 unfold Lo.B2 at h
 have n := Cm e
 refine Ai I (Ac fun u o => Bl I n (qI ?_))
 subst o
 refine qJ (qH (Ai I (Lb [.x 3 b (Aa j)] I ⟨⟨I, Ae m⟩, J⟩ (qD (Ao 2 [.k 0 (b + 1 : Nat)] I ⟨Az e f, J⟩ ?_)))))
 cases io h
 exact qE (lg I2 [])
 rintro c s ob ⟨rfl, rfl⟩ he
 subst he
 have h := i
 have p := Cn a.length
 exact Ai I (Ac fun w y => Bm I p (qM (lg ⟨c, h, I2⟩ [])))
 rintro s ob ⟨d, h, rfl, rfl⟩
 unfold Lo.J1 at h
 refine Ai I ?_
 cases io h
 exact qK pr
theorem Ia (j : List Piece) (r : List Piece) (h : If j = some r) : ACalls Al 60 [Q3 j] [] (fun x new => ∃ (B : Value), x = .v B ∧ new = [U1 B r]) := by
 refine Ag Tryz.func60 I I I fun C hC => ?_
 unfold If at h
 refine Ai I (Ai I (Ak (fun s ob => ∃ (n : List Piece) (f : Value), If.J1 n = some r ∧ s = [(3, .v f)] ∧ ob = [U1 f n]) [] J ?_ ?_))
 refine Bk [.l 1 (j.length : Int)] I ⟨A6, J⟩ (qH (Cd 6 I fun G => qL (Ay 69 2) ?_))
 obtain ⟨ah, H, K⟩ := Ad h
 refine Cr H (K2 6 7) J2 (fun (p : Nat) (b : List Piece) s ob => ∃ (c : Value), s = [(8, .V (p : Int)), (3, .v c)] ∧ ob = [U1 c b]) ⟨nS, I2⟩ ⟨I, I, J⟩ (pk [0]) ?_ ?_
 rintro p d b D s ob M E ⟨c, rfl, rfl⟩ h
 unfold If.B2 at h
 have N := Cm E
 refine Ai I (Ac fun ai O => Bl I N (qI ?_))
 subst O
 refine Ak (fun s ob => ∃ (u : List Piece) (t : Value), If.J3 u = some D ∧ s = [(3, .v t)] ∧ ob = [U1 t u]) (K3 6 7 8) J3 ?_ ?_
 refine qH (Ac fun aj P => qD (Ao 2 [.x 0 p (Aa d)] I ⟨⟨I, Ae M⟩, J⟩ (qF [] I (B0 [.V 0, .V 0] 2 fun Q => qF [1] I (By 1 0 0 [Aa d] I (qE ?_))))))
 subst P
 refine qH (Bk [.o 1 1] I J1 (Av h I ?_ ?_))
 intro R h
 exact qI (lg ⟨b, c, h, I2⟩ [0])
 intro R h
 refine Ak (fun s ob => ∃ (w : Bool), If.J4 d b w = some D ∧ s = [(20, .v (.bool w))] ∧ ob = [U1 c b, O7 Q [Aa d]]) (K5 3 5 6 7 8) J5 ?_ ?_
 rcases bt (decide ((b.length : Int) > 0)) with g | g
 have h := Cb g h
 obtain ⟨i, ⟨S, A⟩, h⟩ := Bc h
 refine Dt 0 I fun U => Dt 0 I fun W => Cl 0 i.1 I A fun X => Bv (pd 16 0 []) [0, 1] [_, _] I (A9 1 I (qV I (Ds I I I U) I (A9 2 I (A8 24 I g (A9 2 I (Dl I I I I ((Ds I I I W).yd) dS (A9 1 I (Dl I I I I ((A3 (m := i.1) I I I I I X I S A).yd) dS (A9 1 I ?_)))))))))
 exact Dl I I I I (Ax 0 i.1 0 I I I (Ae A) I (y := .V i.2.Batch) I) dS (Cf 5 [.o 1 1] I J1 (Ar (qE (lg ⟨(i.2.Batch == d.Batch), h, I2⟩ [0, 1]))))
 have h := Cc g h
 exact Dt 0 I fun Y => Bv (pd 16 0 []) [] [] I (A9 1 I (qV I (Ds I I I Y) I (A9 2 I (A8 24 I g (A9 12 I (Ar (qE (lg ⟨false, h, I2⟩ [0, 1]))))))))
 rintro s ob ⟨w, h, rfl, rfl⟩
 refine Av h I ?_ ?_
 intro Z h
 obtain ⟨a, ⟨F, e⟩, h⟩ := Bc h
 refine Dt 0 I fun aa => Cl 0 a.1 I e fun ab => Cl 0 a.1 I e fun ac => Bv (sl 12 0 (.drop 12 .nil)) [0, 1] [_, _] I (A9 2 I (qV I (Ds I I I aa) I (A9 1 I (qV I (A3 (m := a.1) I I I I I ab I F e) I (A9 1 I (AP.o I (Ax 0 a.1 1 I I I (Ae e) I (y := .V a.2.Volume) I) I (Cf 3 [.o 1 1] I J1 (qV I (A3 (m := a.1) I I I I I ac I F e) I (A9 1 I ?_)))))))))
 exact qX [0] I I I (Bh 0 a.1 1 I I I (Ae e) I I I I (Be I) I (Cj (x := (⟨a.2.Batch, wr (a.2.Volume + d.Volume)⟩ : Piece)) I) (Ar (qE (lg ⟨(b.set a.1 (⟨a.2.Batch, wr (a.2.Volume + d.Volume)⟩ : Piece)), c, h, I2⟩ [0]))))
 intro Z h
 obtain ⟨ad, ae, h⟩ := Ad h
 exact qD (Ao 2 [.o 1 1] I J1 (qF [] I (qO 2 (([d] : List Piece).map Aa) (qF [0] I (qU 0 I ae fun af => Af 1 I (qE (lg ⟨ad, af, h, I2⟩ [0])))))))
 rintro s ob ⟨u, t, h, rfl, rfl⟩
 unfold If.J3 at h
 refine qD (Ao 2 [.k 0 (p + 1 : Nat)] I ⟨Az E G, J⟩ ?_)
 cases io h
 exact qE (lg ⟨t, I2⟩ [0])
 rintro b s ob ⟨c, rfl, rfl⟩ he
 subst he
 have h := K
 have ag := Cn j.length
 exact Ai I (Ac fun ak al => Bm I ag (qM (lg ⟨b, c, h, I2⟩ [0])))
 rintro s ob ⟨n, f, h, rfl, rfl⟩
 refine Ai I ?_
 obtain rfl := oi h
 exact qK ⟨.inr I, [_], [U1 f n], J1, Ca I (Cv), ⟨f, I2⟩⟩
theorem Un (a : Int) (r : Bool) (h : Jr a = r) : ACalls Al 91 [.V a] [] (RB r) := by
 refine Ag Tryz.func91 I I I fun C hC => ?_
 unfold Jr at h
 refine Ai I (Ak (fun s ob => s = [(2, .v (.bool (decide (a ≥ 0) && decide (a < 1000))))] ∧ ob = []) [] J ?_ ?_)
 refine qD (Af 3 I ?_)
 rcases bt (decide (a ≥ 0)) with b | b
 refine Ah 5 I b (Af 4 I (qE ?_))
 exact lf I2 ⟨(D3 (by simp only [b, bz])), J⟩ [] I
 refine Ah 5 I b (Af 4 I (qE ?_))
 exact lf I2 ⟨(D3 (by simp only [b, bz])), J⟩ [] I
 rintro s ob ⟨rfl, rfl⟩
 obtain rfl := h
 exact qK pr
theorem dJ (b : List Piece) (r : Bool) (h : Vl b = some r) : ACalls Al 52 [Q3 b] [] (RB r) := by
 refine Ag Tryz.func52 I I I fun C hC => ?_
 refine Ai I (Ac fun S y => Bk [.l 1 (b.length : Int)] I ⟨A6, J⟩ (Av h I ?_ ?_))
 intro A h
 refine Ai I ?_
 cases io h
 exact qK pr
 intro A h
 refine qI ?_
 subst y
 refine Ai I (Ak (fun s ob => ∃ (n : Int), Vl.J1 n = some r ∧ s = [(3, .V n)] ∧ ob = []) [] J ?_ ?_)
 refine Bk [.l 1 (b.length : Int)] I ⟨A6, J⟩ (qH (Cd 9 I fun B => ?_))
 obtain ⟨U, D, u⟩ := Ad h
 refine Cg D (K3 0 9 10) J3 (fun (d : Nat) (e : Int) s ob => s = [(11, .V (d : Int)), (3, .V e)] ∧ ob = []) ⟨I, I⟩ ⟨I, I, J⟩ (pk []) ?_ ?_
 rintro d a e E s ob F w ⟨rfl, rfl⟩ h G
 unfold Vl.B2 at h
 have H := Cm w
 refine Ai I (Ac fun W K => Bl I H (qI ?_))
 subst K
 refine qJ (qH (Ac fun X M => qD (Ao 3 [.x 1 d (Aa a)] I ⟨⟨I, Ae F⟩, J⟩ (qF [] I (B0 [.V 0, .V 0] 2 fun N => Af 1 I (qF [0] I (By 0 0 0 [Aa a] I (qE ?_))))))))
 subst M
 refine qJ (Ak (fun s ob => ∃ (p : Bool), Vl.J3 a e p = some E ∧ s = [(44, .v (.bool p))] ∧ ob = [O7 N [Aa a]]) (K6 0 3 5 9 10 11) J6 ?_ ?_)
 refine Bv (pd 29 0 [2]) [0] [_] I (Cf 2 [.o 1 0] I J1 (rD I (Un a.Batch _ I) (A9 2 I ?_)))
 rcases bt ((!(Jr a.Batch))) with f | f
 have h := Cb f h
 refine A8 20 I f (A9 13 I (Ap I I I I dS (Ap I I I I dS (Ap I I I I dS (Ap I I I I dS (Ap I I I I dS (Ap I I I I dS (Ap I I I I dS (Ap I I I I dS (Ap I I I I dS (A9 2 I (Ar ?_))))))))))))
 exact qE (lg ⟨true, h, I2⟩ [0])
 have h := Cc f h
 refine A8 20 I f (Cf 5 [.o 1 0] I J1 ?_)
 rcases bt (decide (a.Volume < 1)) with g | g
 have h := Cb g h
 refine A8 25 I g (A9 8 I (Ap I I I I dS (Ap I I I I dS (Ap I I I I dS (Ap I I I I dS (Ap I I I I dS (Ap I I I I dS (Ap I I I I dS (Ap I I I I dS (Ap I I I I dS (A9 2 I (Ar ?_))))))))))))
 exact qE (lg ⟨true, h, I2⟩ [0])
 have h := Cc g h
 refine A8 25 I g (Cf 5 [.o 1 0] I J1 ?_)
 rcases bt (decide (a.Volume > 1000000)) with i | i
 have h := Cb i h
 refine A8 30 I i (A9 3 I (Ap I I I I dS (Ap I I I I dS (Ap I I I I dS (Ap I I I I dS (Ap I I I I dS (Ap I I I I dS (Ap I I I I dS (Ap I I I I dS (Ap I I I I dS (A9 2 I (Ar ?_))))))))))))
 exact qE (lg ⟨true, h, I2⟩ [0])
 have h := Cc i h
 refine A8 30 I i (A9 3 I ?_)
 rcases bt (decide ((d : Int) > 0)) with j | j
 have h := Cb j h
 obtain ⟨t, ⟨O, P⟩, h⟩ := Bc h
 exact A8 33 I j (Cf 11 [.o 1 0, .x 5 t.1 (Aa t.2)] I ⟨⟨O, Ae P⟩, I, J⟩ (Ar (qE (lg ⟨(a.Batch == t.2.Batch), h, I2⟩ [0]))))
 have h := Cc j h
 exact A8 33 I j (A9 11 I (Ar (qE (lg ⟨false, h, I2⟩ [0]))))
 rintro s ob ⟨p, h, rfl, rfl⟩
 refine Av h I ?_ ?_
 intro Q h
 refine Ai I ?_
 obtain rfl := G _ (oi h).symm
 have h := u
 have h := Dj h
 refine qL g0 ?_
 cases io h
 exact qK pr
 intro Q h
 refine qI (Lb [.o 2 0] I J1 (qD (Ao 2 [.k 0 (d + 1 : Nat)] I ⟨Az w B, J⟩ ?_)))
 cases io h
 exact qE ⟨_, _, _, I, I2, J5, pk []⟩
 rintro e s ob ⟨rfl, rfl⟩ he
 subst he
 have h := Dp u
 have R := Cn b.length
 exact Ai I (Ac fun Y Z => Bm I R (qM (lg ⟨e, h, I2⟩ [])))
 rintro s ob ⟨n, h, rfl, rfl⟩
 unfold Vl.J1 at h
 refine Ai I ?_
 cases io h
 exact qK pr
theorem dQ (a : List Piece) (d : List Piece) (r : Bool) (h : Qt a d = some r) : ACalls Al 64 [Q3 a, Q3 d] [] (RB r) := by
 refine Ag Tryz.func64 I I I fun C hC => ?_
 refine Ai I (Ac fun E m => Bk [.l 1 (a.length : Int), .l 3 (d.length : Int)] I ⟨A6, A6, J⟩ (Av h I ?_ ?_))
 intro n h
 refine Ai I ?_
 cases io h
 exact qK pr
 intro n h
 refine qI ?_
 subst m
 refine Ak (fun s ob => ∃ (f : Unit), Qt.J1 f = some r ∧ s = [] ∧ ob = []) [] J ?_ ?_
 refine Bk [.l 1 (a.length : Int)] I ⟨A6, J⟩ (qH (Cd 11 I fun o => ?_))
 obtain ⟨F, p, g⟩ := Ad h
 refine Cg p (K3 0 1 12) J3 (fun (b : Nat) (i : Unit) s ob => s = [(13, .V (b : Int))] ∧ ob = []) ⟨I, I⟩ ⟨I, J⟩ (pk []) ?_ ?_
 rintro b e i G s ob q j ⟨rfl, rfl⟩ h t
 have u := Cm j
 refine Ai I (Ac fun H w => Bl I u (qI ?_))
 subst w
 refine qJ (qH (Ai I (qJ ?_)))
 obtain ⟨c, ⟨y, A⟩, h⟩ := Bc h
 refine Bv (pd 9 0 []) [] [] I (Cf 8 [.x 2 b (Aa e), .x 6 c.1 (Aa c.2)] I ⟨⟨y, Ae A⟩, ⟨I, Ae q⟩, J⟩ (qV I (Pe (r := ((e.Batch == c.2.Batch) && ((e.Volume == c.2.Volume) && true))) I I Ty I I I I) I (Ar (qE (Av h I ?_ ?_)))))
 intro B h
 refine Ai I ?_
 obtain rfl := t _ (oi h).symm
 have h := g
 have h := Dj h
 cases io h
 exact qK pr
 intro B h
 refine qI (qD (Ao 2 [.k 0 (b + 1 : Nat)] I ⟨Az j o, J⟩ ?_))
 cases io h
 exact qE ⟨_, _, _, I, I2, J4, pk []⟩
 rintro i s ob ⟨rfl, rfl⟩ he
 subst he
 have h := Dp g
 have D := Cn a.length
 exact Ai I (Ac fun K M => Bm I D (qM (lg ⟨(), h, I2⟩ [])))
 rintro s ob ⟨f, h, rfl, rfl⟩
 unfold Qt.J1 at h
 refine Ai I ?_
 cases io h
 exact qK pr
theorem T0 (e : List Piece) (r : List Piece) (h : Lk e = some r) : ACalls Al 62 [Q3 e] [] (fun x new => ∃ (g : Value), x = .v g ∧ new = [U1 g r]) := by
 refine Ag Tryz.func62 I I I fun C hC => ?_
 unfold Lk at h
 refine Ai I (Ai I (Ak (fun s ob => ∃ (b : List Piece) (a : Value), Lk.J1 b = some r ∧ s = [(3, .v a)] ∧ ob = [U1 a b]) [] J ?_ ?_))
 refine Bk [.l 1 (e.length : Int)] I ⟨A6, J⟩ (qH (qL (Ay 69 2) ?_))
 obtain ⟨w, i, j⟩ := Ad h
 refine Dm i [(0, _)] J1 (fun (c : (List Piece) × Int) s ob => ∃ (d : Value), s = [(3, .v d), (4, .V c.2)] ∧ ob = [U1 d c.1]) ⟨nS, I2⟩ ⟨I, I, J⟩ (pk [0]) ?_
 rintro c y s ob ⟨d, rfl, rfl⟩ h k
 refine Ac fun A m => Ai I (Av h I ?_ ?_)
 intro n h
 refine qI ?_
 subst m
 refine qJ (qH ?_)
 obtain ⟨f, ⟨o, p⟩, h⟩ := Bc h
 obtain ⟨B, t, h⟩ := Ad h
 refine qD (Ao 5 [.x 3 f.1 (Aa f.2)] I ⟨⟨o, Ae p⟩, J⟩ (qF [] I (qO 2 (([f.2] : List Piece).map Aa) (qF [0] I (qU 0 I t fun u => Af 1 I (qE (qD (Af 3 I ?_))))))))
 cases io h
 exact qE ⟨_, _, _, I, ⟨u, I2⟩, J3, pk [0]⟩
 intro n h
 obtain rfl := k _ (oi h).symm
 have h := j
 exact qM (lg ⟨c.1, d, h, I2⟩ [0])
 rintro s ob ⟨b, a, h, rfl, rfl⟩
 refine Ai I ?_
 obtain rfl := oi h
 exact qK ⟨.inr I, [_], [U1 a b], J1, Ca I (Cv), ⟨a, I2⟩⟩
theorem Ul (j : List Piece) (F : Int) (r : (List Piece) × (List Piece)) (h : Jp j F = some r) : ACalls Al 99 [Q3 j, .V F] [] (fun x new => ∃ (G : Value) (H : Value), x = .tup [.v G, .v H] ∧ new = [U1 G r.1, U1 H r.2]) := by
 refine Ag Tryz.func99 I I I fun C hC => ?_
 unfold Jp at h
 refine Ai I (Ai I (Ak (fun s ob => ∃ (c : (List Piece) × (List Piece)) (n : Value) (d : Value), Jp.J1 c = some r ∧ s = [(6, .v n), (7, .v d)] ∧ ob = [U1 n c.1, U1 d c.2]) [] J ?_ ?_))
 refine Bk [.l 1 (j.length : Int)] I ⟨A6, J⟩ (qH (Cd 11 I fun P => qL (Ay 69 2) (qL (Ay 69 2) ?_)))
 obtain ⟨ad, Q, R⟩ := Ad h
 refine Cr Q (K2 11 12) J2 (fun (p : Nat) (b : Int × (List Piece) × (List Piece)) s ob => ∃ (e : Value) (f : Value), s = [(13, .V (p : Int)), (1, .V b.1), (6, .v e), (7, .v f)] ∧ ob = [U1 e b.2.1, U1 f b.2.2]) ⟨nS, nS, I2⟩ ⟨I, I, I, I, J⟩ (pk [0, 1]) ?_ ?_
 rintro p a b S s ob U M ⟨e, f, rfl, rfl⟩ h
 unfold Jp.B2 at h
 have W := Cm M
 refine Ai I (Ac fun ae X => Bl I W (qI ?_))
 subst X
 refine Ak (fun s ob => ∃ (t : (List Piece) × (List Piece)) (u : Value) (w : Value), Jp.J3 a b t = some S ∧ s = [(1, .V (wr (b.1 - (min b.1 a.Volume)))), (6, .v u), (7, .v w)] ∧ ob = [U1 u t.1, U1 w t.2]) (K3 11 12 13) J3 ?_ ?_
 refine qH (Ac fun af Y => qD (Ao 2 [.x 0 p (Aa a)] I ⟨⟨I, Ae U⟩, J⟩ (qF [] I (B0 [.V 0, .V 0] 2 fun ag => qF [2] I (By 2 0 0 [Aa a] I (qE ?_))))))
 subst Y
 refine Bk [.o 2 2] I J1 (Ai I ?_)
 obtain ⟨y, A, h⟩ := Ad h
 obtain ⟨B, D, h⟩ := Ad h
 refine Bv (sl 5 0 (sl 8 7 (.two 5 15 (.two 6 15 (.act 15 fL) (.act 6 fL)) (.act 5 (.act 6 fL))))) [2] [_] I (Cf 4 [.o 2 0] I J1 (qV I (Bi (l := [.V a.Batch, .V (min b.1 a.Volume)]) Ct I) I (Cf 7 [.o 2 0, .o 4 0] I J2 (qV I (Bi (l := [.V a.Batch, .V (wr (a.Volume - (min b.1 a.Volume)))]) Ct I) I (qW ?_ ?_)))))
 refine qG [] I I I (qO 2 (([(⟨a.Batch, (min b.1 a.Volume)⟩ : Piece)] : List Piece).map Aa) (qW ?_ ?_))
 exact qG [0] I I I (qU 0 I A fun g => qG [] I I I (qO 2 (([(⟨a.Batch, wr (a.Volume - (min b.1 a.Volume))⟩ : Piece)] : List Piece).map Aa) (qG [1] I I I (qU 1 I D fun i => Iv 6 (A9 1 I (Iv 7 (A9 1 I (Ar (qE (lg ⟨(y, B), g, i, h, I2⟩ [0, 1]))))))))))
 exact qG [] I I I (qO 2 (([(⟨a.Batch, wr (a.Volume - (min b.1 a.Volume))⟩ : Piece)] : List Piece).map Aa) (qG [0] I I I (qU 0 I A fun g => qG [1] I I I (qU 1 I D fun i => Iv 6 (A9 1 I (Iv 7 (A9 1 I (Ar (qE (lg ⟨(y, B), g, i, h, I2⟩ [0, 1]))))))))))
 exact qG [] I I I (qO 2 (([(⟨a.Batch, wr (a.Volume - (min b.1 a.Volume))⟩ : Piece)] : List Piece).map Aa) (qG [] I I I (qO 2 (([(⟨a.Batch, (min b.1 a.Volume)⟩ : Piece)] : List Piece).map Aa) (qG [0] I I I (qU 0 I A fun g => qG [1] I I I (qU 1 I D fun i => Iv 6 (A9 1 I (Iv 7 (A9 1 I (Ar (qE (lg ⟨(y, B), g, i, h, I2⟩ [0, 1]))))))))))))
 rintro s ob ⟨t, u, w, h, rfl, rfl⟩
 unfold Jp.J3 at h
 refine qD (Ao 2 [.k 0 (p + 1 : Nat)] I ⟨Az M P, J⟩ ?_)
 cases io h
 exact qE (lg ⟨u, w, I2⟩ [0, 1])
 rintro b s ob ⟨e, f, rfl, rfl⟩ he
 subst he
 have h := R
 have Z := Cn j.length
 exact Ai I (Ac fun ah ai => Bm I Z (qM (lg ⟨(b.2.1, b.2.2), e, f, h, I2⟩ [0, 1])))
 rintro s ob ⟨c, n, d, h, rfl, rfl⟩
 refine qJ ?_
 obtain ⟨N, aa, h⟩ := Ad h
 obtain ⟨ab, ac, h⟩ := Ad h
 refine qD (Af 1 I (qS (As [0] (K := [U1 n c.1]) I [(6, Q3 c.1), (42, Q3 c.1)] ⟨⟨_, I, .us 0 I⟩, ⟨_, I, .us 0 I⟩, J⟩ (ob' := [U1 d c.2]) (.rest _)) (qF [] I (Bg I I I (Ia _ _ aa) dS ?_))))
 rintro _ _ ⟨E, rfl, rfl⟩
 refine Af 1 I (qS (As [0] (K := [U1 d c.2]) I [(7, Q3 c.2), (44, Q3 c.2)] ⟨⟨_, I, .us 0 I⟩, ⟨_, I, .us 0 I⟩, J⟩ (ob' := [U1 E N]) (.rest _)) (qF [] I (Bg I I I (Ia _ _ ac) dS ?_)))
 rintro _ _ ⟨O, rfl, rfl⟩
 refine Af 2 I (qE ?_)
 cases io h
 exact qK ⟨.inr I, [_, _], [U1 E N, U1 O ab], J2, Ca I (Ca I (Cv)), ⟨E, O, I2⟩⟩
theorem dT (a : List Piece) (b : List Piece) (d : Bool) (r : (List Piece) × (List Piece)) (h : Vn a b d = some r) : ACalls Al 63 [Q3 a, Q3 b, .v (.bool d)] [] (fun x new => ∃ (e : Value) (f : Value), x = .tup [.v e, .v f] ∧ new = [U1 e r.1, U1 f r.2]) := by
 refine Ag Tryz.func63 I I I fun C hC => ?_
 refine Ai I (Ac fun H p => Ai I (Av h I ?_ ?_))
 intro s h
 refine qJ ?_
 obtain ⟨M, t, h⟩ := Ad h
 obtain ⟨g, u, h⟩ := Ad h
 obtain ⟨N, w, h⟩ := Ad h
 obtain ⟨i, y, h⟩ := Ad h
 refine qD (qF [] I (qP (sz := 2) (es := ([] : List Piece).map Aa) I I I I I I I I I I I dS fun O => Af 1 I (qF [0] I (qU 0 I t fun P => Af 1 I (qF [0] I (qU 0 I u fun A => Af 1 I (qR (Om _ _ w) (qS (As [0] (K := [U1 A g]) I [(16, Q3 g)] ⟨⟨_, I, .us 0 I⟩, J⟩ (ob' := []) (.rest _)) (qF [] I (Bg I I I (Ul _ _ _ y) dS ?_))))))))))
 rintro _ _ ⟨j, k, rfl, rfl⟩
 refine Af 5 I (qE (Ai I (Dd [1, 0] I ?_)))
 cases io h
 exact qK ⟨.inr I, [_, _], [U1 k i.2, U1 j i.1], J2, Ca I (Ca I (Cv)), ⟨k, j, I2⟩⟩
 intro s h
 refine qI ?_
 subst p
 refine qJ ?_
 obtain ⟨Q, B, h⟩ := Ad h
 obtain ⟨l, D, h⟩ := Ad h
 obtain ⟨R, E, h⟩ := Ad h
 obtain ⟨m, F, h⟩ := Ad h
 refine qD (qF [] I (qP (sz := 2) (es := ([] : List Piece).map Aa) I I I I I I I I I I I dS fun S => Af 1 I (qF [0] I (qU 0 I B fun U => Af 1 I (qF [0] I (qU 0 I D fun G => Af 1 I (qR (Om _ _ E) (qS (As [0] (K := [U1 G l]) I [(28, Q3 l)] ⟨⟨_, I, .us 0 I⟩, J⟩ (ob' := []) (.rest _)) (qF [] I (Bg I I I (Ul _ _ _ F) dS ?_))))))))))
 rintro _ _ ⟨n, o, rfl, rfl⟩
 refine Af 4 I (qE ?_)
 cases io h
 exact qK ⟨.inr I, [_, _], [U1 n m.1, U1 o m.2], J2, Ca I (Ca I (Cv)), ⟨n, o, I2⟩⟩
theorem D5 (a : List (List Piece)) (d : List (List Piece)) (r : Bool) (h : Hp a d = some r) : ACalls Al 19 [.list 1 (a.map (rL 2 Aa)), .list 1 (d.map (rL 2 Aa))] [] (RB r) := by
 refine Ag Tryz.func19 I I I fun C hC => ?_
 refine Ai I (Ac fun H m => Bk [.l 1 (a.length : Int), .l 3 (d.length : Int)] I ⟨A6, A6, J⟩ (Av h I ?_ ?_))
 intro n h
 refine Ai I ?_
 cases io h
 exact qK pr
 intro n h
 refine qI ?_
 subst m
 refine Ak (fun s ob => ∃ (e : Unit), Hp.J1 e = some r ∧ s = [] ∧ ob = []) [] J ?_ ?_
 refine Bk [.l 1 (a.length : Int)] I ⟨A6, J⟩ (qH (Cd 11 I fun o => ?_))
 obtain ⟨K, p, f⟩ := Ad h
 refine Cg p (K3 0 1 12) J3 (fun (b : Nat) (g : Unit) s ob => s = [(13, .V (b : Int))] ∧ ob = []) ⟨I, I⟩ ⟨I, J⟩ (pk []) ?_ ?_
 rintro b t g M s ob u i ⟨rfl, rfl⟩ h w
 have y := Cm i
 refine Ai I (Ac fun N A => Bl I y (qI ?_))
 subst A
 refine qJ (qH (Ai I (qJ ?_)))
 obtain ⟨j, ⟨B, D⟩, h⟩ := Bc h
 obtain ⟨O, E, h⟩ := Ad h
 refine Bv (pd 10 0 [8]) [] [] I (Cf 8 [.x 2 b ((rL 2 Aa) t), .x 6 j.1 ((rL 2 Aa) j.2)] I ⟨⟨B, Ae D⟩, ⟨I, Ae u⟩, J⟩ (rD I (dQ _ _ _ E) (A9 1 I (Ar (qE (Av h I ?_ ?_))))))
 intro F h
 refine Ai I ?_
 obtain rfl := w _ (oi h).symm
 have h := f
 have h := Dj h
 cases io h
 exact qK pr
 intro F h
 refine qI (qD (Ao 2 [.k 0 (b + 1 : Nat)] I ⟨Az i o, J⟩ ?_))
 cases io h
 exact qE ⟨_, _, _, I, I2, J4, pk []⟩
 rintro g s ob ⟨rfl, rfl⟩ he
 subst he
 have h := Dp f
 have G := Cn a.length
 exact Ai I (Ac fun P Q => Bm I G (qM (lg ⟨(), h, I2⟩ [])))
 rintro s ob ⟨e, h, rfl, rfl⟩
 unfold Hp.J1 at h
 refine Ai I ?_
 cases io h
 exact qK pr
end Go.Proofs.YtaoclefkknloiaaGreat
