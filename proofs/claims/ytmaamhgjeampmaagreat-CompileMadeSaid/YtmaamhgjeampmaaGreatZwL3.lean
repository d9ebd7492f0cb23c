/- Walks that show what functions of the program compute; printed by a program of ours. No condition. -/
import Derived.Test.YtmaamhgjeampmaaGreatZwL0
import Derived.Test.YtmaamhgjeampmaaGreatZwD
set_option maxRecDepth 100000
namespace Go.Proofs.YtmaamhgjeampmaaGreat
open Go.Aw
set_option linter.unusedVariables false
set_option linter.unusedSimpArgs false
set_option maxHeartbeats 4000000
abbrev rJ : PL := sl 8 0 (.act 8 (.act 9 (.still 10 (.drop 11 .nil))))
theorem De (a : Int) (c : Int) (d : Int) (r : Bool) (h : Ct a c d = r) : ACalls Ai 111 [.V a, .V c, .V d] [] (RB r) := by
 refine Ag Tryz.func111 I I I fun C hC => ?_
 unfold Ct at h
 refine Aj I (Ah (fun s ob => s = [(6, .v (.bool (decide (a ≥ c) && decide (a ≤ d))))] ∧ ob = []) [] J ?_ ?_)
 refine vH (Af 4 I ?_)
 rcases bt (decide (a ≥ c)) with b | b
 refine Ad 10 I b (Af 5 I (vI ?_))
 exact lf I2 ⟨(D1 (by simp only [b, bz])), J⟩ [] I
 refine Ad 10 I b (Af 5 I (vI ?_))
 exact lf I2 ⟨(D1 (by simp only [b, bz])), J⟩ [] I
 rintro s ob ⟨rfl, rfl⟩
 obtain rfl := h
 exact vO pr
theorem iL (a : Nw) (r : Arr (List Bt) 4) (h : R6 a = some r) : ACalls Ai 112 [.agg (Ab a)] [] (RV (.agg (r.l.map (cL 1 rS)))) := by
 refine Ag Tryz.func112 I I I fun C hC => ?_
 unfold R6 at h
 refine Aa fun y1 U => vH (vJ [] I (Bh (Ab a) 6 fun u => vJ [] I (Bm W1 4 fun f => vI ?_)))
 subst U
 refine Aa fun y4 W => vH (vJ [] I (Bm W1 4 fun g => vI ?_))
 subst W
 refine Aa fun y6 X => vH (Al 2 [.o 1 0] I J1 (Ch (Dz (m := 0) I I I I I I (A4 I)) I (vJ [2] I (A3 2 0 0 [[Q1 a.Nodes, .N, .N, .N]] I (vI ?_)))))
 subst X
 refine Ah (fun s ob => ∃ (c : List Bt) (b : Value), R6.J1 a c = some r ∧ s = [] ∧ ob = [O0 u [Ab a], O6 f [W1], O6 g [[Q1 a.Nodes, .v b, .N, .N]], U5 b c]) (K3 1 2 3) J3 ?_ ?_
 refine Bl [.o 1 0, .l 2 (a.Segments.length : Int)] I ⟨A8, I, J⟩ (vN (Cu 14 I fun Y => vP (A7 9 1) ?_))
 obtain ⟨a5, Z, aa⟩ := Ac h
 refine Dm Z (K5 1 2 3 14 15) J5 (fun (w : Nat) (y : List Bt) s ob => ∃ (j : Value), s = [(16, .V (w : Int))] ∧ ob = [O0 u [Ab a], O6 f [W1], O6 g [[Q1 a.Nodes, .v j, .N, .N]], U5 j y]) ⟨nS, I2⟩ ⟨I, J⟩ (pk N4) ?_ ?_
 rintro w F y a6 s ob ab M ⟨j, rfl, rfl⟩ h
 have ac := Df M
 refine Aj I (Aa fun a7 ad => Cl I ac (vL ?_))
 subst ad
 refine vM (vN (vM (vH (Al 2 [.x 0 w (Ap F)] I ⟨⟨I, Ae ab⟩, J⟩ (vJ [] I (Bm W4 7 fun a8 => vJ [4] I (A3 4 0 0 [Ap F] I (vI ?_))))))))
 obtain ⟨a9, ae, h⟩ := Ac h
 refine vH (Ch (Dz (m := 1) I I I I I I (A4 I)) I (Al 3 [.o 0 2, .o 2 4] I J2 (vJ [] I (vR 1 (([F.Name] : List Bt).map rS) (vJ [3] I (vV 3 I ae fun O => Ch (Dz (m := 1) I I I I I I (A4 I)) I (wC 3 I fun af => vJ [2] I (vT 2 0 1 (es' := [[Q1 a.Nodes, .v O, .N, .N]]) I I I I I I (A6 af) I (A4 I) I I (vI (vH (Al 2 [.k 0 (w + 1 : Nat)] I ⟨Bj M Y, J⟩ ?_)))))))))))
 cases io h
 exact vI (lg ⟨O, I2⟩ N4)
 rintro y s ob ⟨j, rfl, rfl⟩ he
 subst he
 have h := aa
 have ag := Dg a.Segments.length
 exact Aj I (Aa fun ba bb => Cm I ag (vQ (lg ⟨y, j, h, I2⟩ N4)))
 rintro s ob ⟨c, b, h, rfl, rfl⟩
 unfold R6.J1 at h
 refine Ah (fun s ob => ∃ (e : List Bt) (d : Value), R6.J2 a c e = some r ∧ s = [] ∧ ob = [O0 u [Ab a], O6 f [W1], O6 g [[Q1 a.Nodes, .v b, .v d, .N]], U5 b c, U5 d e]) (K3 1 2 3) J3 ?_ ?_
 refine Bl [.o 1 0, .l 2 (a.Ports.length : Int)] I ⟨A8, I, J⟩ (vN (Cu 29 I fun ah => vP (A7 9 1) ?_))
 obtain ⟨bc, ai, aj⟩ := Ac h
 refine Dm ai (K5 1 2 3 29 30) J5 (fun (A : Nat) (B : List Bt) s ob => ∃ (n : Value), s = [(31, .V (A : Int))] ∧ ob = [O0 u [Ab a], O6 f [W1], O6 g [[Q1 a.Nodes, .v b, .v n, .N]], U5 b c, U5 n B]) ⟨nS, I2⟩ ⟨I, J⟩ (pk N5) ?_ ?_
 rintro A G B bd s ob ak P ⟨n, rfl, rfl⟩ h
 have al := Df P
 refine Aj I (Aa fun be am => Cl I al (vL ?_))
 subst am
 refine vM (vN (vM (vH (Al 2 [.x 0 A (Cc G)] I ⟨⟨I, Ae ak⟩, J⟩ (vJ [] I (Bm W6 3 fun bf => vJ [5] I (A3 5 0 0 [Cc G] I (vI ?_))))))))
 obtain ⟨bg, an, h⟩ := Ac h
 refine vH (Ch (Dz (m := 2) I I I I I I (A4 I)) I (Al 3 [.o 0 2, .o 2 5] I J2 (vJ [] I (vR 1 (([G.Name] : List Bt).map rS) (vJ [4] I (vV 4 I an fun Q => Ch (Dz (m := 2) I I I I I I (A4 I)) I (wC 4 I fun ao => vJ [2] I (vT 2 0 2 (es' := [[Q1 a.Nodes, .v b, .v Q, .N]]) I I I I I I (A6 ao) I (A4 I) I I (vI (vH (Al 2 [.k 0 (A + 1 : Nat)] I ⟨Bj P ah, J⟩ ?_)))))))))))
 cases io h
 exact vI (lg ⟨Q, I2⟩ N5)
 rintro B s ob ⟨n, rfl, rfl⟩ he
 subst he
 have h := aj
 have aq := Dg a.Ports.length
 exact Aj I (Aa fun bh bi => Cm I aq (vQ (lg ⟨B, n, h, I2⟩ N5)))
 rintro s ob ⟨e, d, h, rfl, rfl⟩
 unfold R6.J2 at h
 refine Ah (fun s ob => ∃ (q : List Bt) (i : Value), R6.J3 a c e q = some r ∧ s = [] ∧ ob = [O6 f [W1], O6 g [[Q1 a.Nodes, .v b, .v d, .v i]], U5 b c, U5 d e, U5 i q]) (K2 2 3) J2 ?_ ?_
 refine Bl [.o 1 0, .l 2 (a.Stations.length : Int)] I ⟨A8, I, J⟩ (vN (Cu 44 I fun ar => vP (A7 9 1) ?_))
 obtain ⟨bj, au, av⟩ := Ac h
 refine Dm au (K4 2 3 44 45) J4 (fun (D : Nat) (E : List Bt) s ob => ∃ (t : Value), s = [(46, .V (D : Int))] ∧ ob = [O6 f [W1], O6 g [[Q1 a.Nodes, .v b, .v d, .v t]], U5 b c, U5 d e, U5 t E]) ⟨nS, I2⟩ ⟨I, J⟩ (pk [1, 2, 3, 4, 5]) ?_ ?_
 rintro D H E bk s ob aw R ⟨t, rfl, rfl⟩ h
 have ax := Df R
 refine Aj I (Aa fun bl ay => Cl I ax (vL ?_))
 subst ay
 refine vM (vN (vM (vH (Al 2 [.x 0 D (Bn H)] I ⟨⟨I, Ae aw⟩, J⟩ (vJ [] I (Bm W7 5 fun bm => vJ [5] I (A3 5 0 0 [Bn H] I (vI ?_))))))))
 obtain ⟨bn, az, h⟩ := Ac h
 refine vH (Ch (Dz (m := 3) I I I I I I (A4 I)) I (Al 3 [.o 0 1, .o 2 5] I J2 (vJ [] I (vR 1 (([H.Name] : List Bt).map rS) (vJ [4] I (vV 4 I az fun S => Ch (Dz (m := 3) I I I I I I (A4 I)) I (wC 4 I fun a0 => vJ [1] I (vT 1 0 3 (es' := [[Q1 a.Nodes, .v b, .v d, .v S]]) I I I I I I (A6 a0) I (A4 I) I I (vI (vH (Al 2 [.k 0 (D + 1 : Nat)] I ⟨Bj R ar, J⟩ ?_)))))))))))
 cases io h
 exact vI (lg ⟨S, I2⟩ N5)
 rintro E s ob ⟨t, rfl, rfl⟩ he
 subst he
 have h := av
 have a1 := Dg a.Stations.length
 exact Aj I (Aa fun bo bp => Cm I a1 (vQ (lg ⟨E, t, h, I2⟩ N5)))
 rintro s ob ⟨q, i, h, rfl, rfl⟩
 unfold R6.J3 at h
 refine vM (vH (Al 1 [.o 0 1] I J1 (vJ [0] I (A3 0 0 0 [[Q1 a.Nodes, .v b, .v d, .v i]] I (vI (vP (Av [2, 3, 4] (K := [U5 b c, U5 d e, U5 i q]) I [] J (ob' := [O6 f [[Q1 a.Nodes, Q1 c, Q1 e, Q1 q]], O6 g [[Q1 a.Nodes, .v b, .v d, .v i]]]) (.cons (.arr (.cons (.refl _) (.cons (.us 0 I) (.cons (.us 1 I) (.cons (.us 2 I) (.rest _)))))) (.rest _))) (Cd [0] I ?_)))))))
 cases io h
 exact vO ⟨.inr I, [_], [], ⟨⟨0, _, _, _, _, _, _, _, I5⟩, J⟩, Cf, I2⟩
theorem iK (g : Bt) (r : Bool) (h : R5 g = some r) : ACalls Ai 113 [.v (.string g)] [] (RB r) := by
 refine Ag Tryz.func113 I I I fun C hC => ?_
 unfold R5 at h
 refine Aj I (Aa fun X M => Ah (fun s ob => ∃ (y : Bool), R5.J1 g y = some r ∧ s = [(21, .v (.bool y))] ∧ ob = []) [(0, _)] J1 ?_ ?_)
 refine vH (Af 4 I ?_)
 rcases bt (decide ((g.size : Int) < 1)) with i | i
 have h := B0 i h
 exact Ad 7 I i (Af 14 I (vI (lg ⟨true, h, I2⟩ [])))
 have h := B8 i h
 refine Ad 7 I i ?_
 rcases bt (decide ((g.size : Int) > 12)) with j | j
 have h := B0 j h
 exact Af 5 I (Ad 12 I j (Af 9 I (vI (lg ⟨true, h, I2⟩ []))))
 have h := B8 j h
 obtain ⟨f, N, h⟩ := Ac h
 obtain ⟨D, E, F⟩ := My N
 refine Af 5 I (Ad 12 I j (Af 1 I (Bf I I I (Ch (C8 (m := f.1) I I I I D E F) I (Bf I I I (Ch (wF (c := decide (f.2 < 97)) I I I) I (Af 2 I ?_)))))))
 rcases bt (decide (f.2 < 97)) with k | k
 have h := B0 k h
 exact Ad 17 I k (Af 4 I (vI (lg ⟨true, h, I2⟩ [])))
 have h := B8 k h
 exact Ad 17 I k (Af 1 I (Bf I I I (Ch (C8 (m := f.1) I I I I D E F) I (Bf I I I (Ch (wF (c := decide (f.2 > 122)) I I I) I (Af 1 I (vI (lg ⟨decide (f.2 > 122), h, I2⟩ []))))))))
 rintro s ob ⟨y, h, rfl, rfl⟩
 refine Ao h I ?_ ?_
 intro O h
 refine Aj I ?_
 cases io h
 exact vO pr
 intro O h
 refine vL ?_
 subst M
 refine Ah (fun s ob => ∃ (G : Unit), R5.J2 G = some r ∧ s = [] ∧ ob = []) [] J ?_ ?_
 refine Aj I (vN ?_)
 obtain ⟨Y, P, H⟩ := Ac h
 refine Bo P [(0, _)] J1 (fun (A : Int) s ob => s = [(3, .V A)] ∧ ob = []) ⟨I, I⟩ ⟨I, J⟩ (pk []) ?_
 rintro A Q s ob ⟨rfl, rfl⟩ h K
 refine Aa fun Z R => Aj I (Ao h I ?_ ?_)
 intro S h
 refine vL ?_
 subst R
 refine vM (vN (Ah (fun s ob => ∃ (B : Bool), R5.J4 A B = some Q ∧ s = [(55, .v (.bool B))] ∧ ob = []) (K2 0 3) J2 ?_ ?_))
 obtain ⟨a, U, h⟩ := Ac h
 obtain ⟨b, d, e⟩ := My U
 refine vH (Af 2 I (Ch (C8 (m := a.1) I I I I b d e) I (Ch (wF (c := decide (a.2 < 97)) I I I) I (Af 1 I ?_))))
 rcases bt (decide (a.2 < 97)) with l | l
 have h := B0 l h
 refine Ad 32 I l (Af 8 I (Bf I I I (Ch (C8 (m := a.1) I I I I b d e) I (Bf I I I (Ch (wF (c := decide (a.2 < 48)) I I I) I (Af 1 I ?_))))))
 rcases bt (decide (a.2 < 48)) with n | n
 have h := B0 n h
 exact Ad 43 I n (Af 9 I (Bf I I I (Ch (C8 (m := a.1) I I I I b d e) I (Bf I I I (Ch (wF (c := (a.2 != 45)) I I I) I (Af 1 I (vI (lg ⟨(a.2 != 45), h, I2⟩ []))))))))
 have h := B8 n h
 refine Ad 43 I n (Af 2 I (Bf I I I (Ch (C8 (m := a.1) I I I I b d e) I (Bf I I I (Ch (wF (c := decide (a.2 > 57)) I I I) I (Af 3 I ?_))))))
 rcases bt (decide (a.2 > 57)) with o | o
 have h := B0 o h
 exact Ad 50 I o (Af 2 I (Bf I I I (Ch (C8 (m := a.1) I I I I b d e) I (Bf I I I (Ch (wF (c := (a.2 != 45)) I I I) I (Af 1 I (vI (lg ⟨(a.2 != 45), h, I2⟩ []))))))))
 have h := B8 o h
 exact Ad 50 I o (Af 5 I (vI (lg ⟨false, h, I2⟩ [])))
 have h := B8 l h
 refine Ad 32 I l (Af 2 I (Bf I I I (Ch (C8 (m := a.1) I I I I b d e) I (Bf I I I (Ch (wF (c := decide (a.2 > 122)) I I I) I (Af 2 I ?_))))))
 rcases bt (decide (a.2 > 122)) with t | t
 have h := B0 t h
 refine Ad 38 I t (Af 2 I (Bf I I I (Ch (C8 (m := a.1) I I I I b d e) I (Bf I I I (Ch (wF (c := decide (a.2 < 48)) I I I) I (Af 1 I ?_))))))
 rcases bt (decide (a.2 < 48)) with u | u
 have h := B0 u h
 exact Ad 43 I u (Af 9 I (Bf I I I (Ch (C8 (m := a.1) I I I I b d e) I (Bf I I I (Ch (wF (c := (a.2 != 45)) I I I) I (Af 1 I (vI (lg ⟨(a.2 != 45), h, I2⟩ []))))))))
 have h := B8 u h
 refine Ad 43 I u (Af 2 I (Bf I I I (Ch (C8 (m := a.1) I I I I b d e) I (Bf I I I (Ch (wF (c := decide (a.2 > 57)) I I I) I (Af 3 I ?_))))))
 rcases bt (decide (a.2 > 57)) with w | w
 have h := B0 w h
 exact Ad 50 I w (Af 2 I (Bf I I I (Ch (C8 (m := a.1) I I I I b d e) I (Bf I I I (Ch (wF (c := (a.2 != 45)) I I I) I (Af 1 I (vI (lg ⟨(a.2 != 45), h, I2⟩ []))))))))
 have h := B8 w h
 exact Ad 50 I w (Af 5 I (vI (lg ⟨false, h, I2⟩ [])))
 have h := B8 t h
 exact Ad 38 I t (Af 5 I (Ce I I dS (Ce I I dS (Ce I I dS (Ce I I dS (Af 8 I (vI (lg ⟨false, h, I2⟩ []))))))))
 rintro s ob ⟨B, h, rfl, rfl⟩
 refine Ao h I ?_ ?_
 intro W h
 refine Aj I ?_
 obtain rfl := K _ (oi h).symm
 have h := H
 have h := Dn h
 cases io h
 exact vO pr
 intro W h
 refine vL (vH (Af 3 I ?_))
 cases io h
 exact vI ⟨_, _, _, I, I2, J2, pk []⟩
 intro S h
 obtain rfl := K _ (oi h).symm
 have h := H
 have h := Do h
 exact vQ (lg ⟨(), h, I2⟩ [])
 rintro s ob ⟨G, h, rfl, rfl⟩
 unfold R5.J2 at h
 refine Aj I ?_
 cases io h
 exact vO pr
theorem jK (a : List Bt) (r : Bool) (h : Sl a = some r) : ACalls Ai 114 [Q1 a] [] (RB r) := by
 refine Ag Tryz.func114 I I I fun C hC => ?_
 unfold Sl at h
 refine Aj I (Ah (fun s ob => ∃ (e : Unit), Sl.J1 e = some r ∧ s = [] ∧ ob = []) [] J ?_ ?_)
 refine Bl [.l 1 (a.length : Int)] I ⟨A8, J⟩ (vN (Cu 5 I fun t => ?_))
 obtain ⟨O, u, f⟩ := Ac h
 refine Cv u (K2 0 6) J2 (fun (b : Nat) (g : Unit) s ob => s = [(7, .V (b : Int))] ∧ ob = []) ⟨I, I⟩ ⟨I, J⟩ (pk []) ?_ ?_
 rintro b i g w s ob y j ⟨rfl, rfl⟩ h A
 unfold Sl.B2 at h
 have B := Df j
 refine Aj I (Aa fun P D => Cl I B (vL ?_))
 subst D
 refine Ah (fun s ob => ∃ (m : Unit), Sl.J3 m = some w ∧ s = [] ∧ ob = []) (K3 0 6 7) J3 ?_ ?_
 refine vN (Aj I (Aj I (vN ?_)))
 obtain ⟨Q, E, n⟩ := Ac h
 refine Bo E (K4 0 3 6 7) J4 (fun (o : Int) s ob => s = [(4, .V o)] ∧ ob = []) ⟨I, I⟩ ⟨I, J⟩ (pk []) ?_
 rintro o R s ob ⟨rfl, rfl⟩ h p
 refine Aa fun S F => Aj I (Ao h I ?_ ?_)
 intro G h
 refine vL ?_
 subst F
 refine vM (vN (vM ?_))
 obtain ⟨d, ⟨H, K⟩, h⟩ := Ba h
 refine Bi (pd 9 0 []) [] [] I (Br 8 [.x 2 b (rS i), .x 6 d.1 (rS d.2)] I ⟨⟨H, Ae K⟩, ⟨I, Ae y⟩, J⟩ (vX I (Yp.cmpS (c := Yf i d.2) I I I) I (An (vI (Ao h I ?_ ?_)))))
 intro M h
 refine Aj I ?_
 obtain rfl := p _ (oi h).symm
 have h := n
 have h := Dn h
 obtain rfl := A _ (oi h).symm
 have h := f
 have h := Do h
 cases io h
 exact vO pr
 intro M h
 refine vL (vH (Af 3 I ?_))
 cases io h
 exact vI ⟨_, _, _, I, I2, J5, pk []⟩
 intro G h
 obtain rfl := p _ (oi h).symm
 have h := n
 have h := Do h
 exact vQ (lg ⟨(), h, I2⟩ [])
 rintro s ob ⟨m, h, rfl, rfl⟩
 unfold Sl.J3 at h
 refine vH (Al 2 [.k 0 (b + 1 : Nat)] I ⟨Bj j t, J⟩ ?_)
 cases io h
 exact vI ⟨_, _, _, I, I2, J3, pk []⟩
 rintro g s ob ⟨rfl, rfl⟩ he
 subst he
 have h := Dn f
 have N := Dg a.length
 exact Aj I (Aa fun U W => Cm I N (vQ (lg ⟨(), h, I2⟩ [])))
 rintro s ob ⟨e, h, rfl, rfl⟩
 unfold Sl.J1 at h
 refine Aj I ?_
 cases io h
 exact vO pr
theorem iJ (a : Sg) (r : Bool) (h : R2 a = some r) : ACalls Ai 115 [.agg (Ap a)] [] (RB r) := by
 refine Ag Tryz.func115 I I I fun C hC => ?_
 unfold R2 at h
 refine Aa fun y1 K => vH (vJ [] I (Bh (Ap a) 7 fun u => Af 1 I (vI ?_)))
 subst K
 refine Aa fun y3 M => Ah (fun s ob => ∃ (w : Bool), R2.J1 a w = some r ∧ s = [(49, .v (.bool w))] ∧ ob = [O9 u [Ap a]]) [(1, _)] J1 ?_ ?_
 refine Bi (pd 45 0 [8, 14, 20]) [0] [_] I (Br 6 [.o 1 0, .o 3 0] I J2 ?_)
 rcases bt ((a.From == a.To)) with c | c
 have h := B0 c h
 exact Bk 10 I c (A9 39 I (An (vI (lg ⟨true, h, I2⟩ [0]))))
 have h := B8 c h
 refine Bk 10 I c (Br 2 [.o 1 0] I J1 (H8 I (De a.Capacity 1 1000000 _ I) (A9 3 I ?_)))
 rcases bt ((!(Ct a.Capacity 1 1000000))) with d | d
 have h := B0 d h
 exact Bk 16 I d (A9 33 I (An (vI (lg ⟨true, h, I2⟩ [0]))))
 have h := B8 d h
 refine Bk 16 I d (Br 2 [.o 1 0] I J1 (H8 I (De a.Resist 0 1000 _ I) (A9 3 I ?_)))
 rcases bt ((!(Ct a.Resist 0 1000))) with e | e
 have h := B0 e h
 exact Bk 22 I e (A9 27 I (An (vI (lg ⟨true, h, I2⟩ [0]))))
 have h := B8 e h
 refine Bk 22 I e (Br 2 [.o 1 0] I J1 (H8 I (De a.Wave 0 100000 _ I) (A9 3 I ?_)))
 rcases bt ((!(Ct a.Wave 0 100000))) with f | f
 have h := B0 f h
 exact Bk 28 I f (A9 21 I (An (vI (lg ⟨true, h, I2⟩ [0]))))
 have h := B8 f h
 obtain ⟨y, ⟨N, O⟩, h⟩ := Ba h
 refine Bk 28 I f (Br 8 [.o 1 0, .x 2 y.1 (C1 y.2)] I ⟨⟨N, Ae O⟩, I, J⟩ ?_)
 rcases bt ((y.2.At != 0)) with g | g
 have h := B0 g h
 exact Bk 36 I g (A9 13 I (An (vI (lg ⟨true, h, I2⟩ [0]))))
 have h := B8 g h
 obtain ⟨A, ⟨P, Q⟩, h⟩ := Ba h
 exact Bk 36 I g (Br 13 [.o 1 0, .o 3 0, .l 4 (a.Points.length : Int), .x 6 A.1 (C1 A.2), .o 10 0] I ⟨I, ⟨P, Ae Q⟩, A8, I, I, J⟩ (An (vI (lg ⟨(A.2.At != a.Capacity), h, I2⟩ [0]))))
 rintro s ob ⟨w, h, rfl, rfl⟩
 refine Ao h I ?_ ?_
 intro R h
 refine Aj I (vP g0 ?_)
 cases io h
 exact vO pr
 intro R h
 refine vL ?_
 subst M
 refine Ah (fun s ob => ∃ (E : Unit), R2.J2 E = some r ∧ s = [] ∧ ob = []) [] J ?_ ?_
 refine Bl [.o 1 0, .l 2 (a.Points.length : Int)] I ⟨A8, I, J⟩ (vN (Cu 51 I fun S => ?_))
 obtain ⟨ai, U, F⟩ := Ac h
 refine Cv U (K3 1 51 52) J3 (fun (i : Nat) (G : Unit) s ob => s = [(53, .V (i : Int))] ∧ ob = [O9 u [Ap a]]) ⟨I, I⟩ ⟨I, J⟩ (pk [0]) ?_ ?_
 rintro i b G W s ob X H ⟨rfl, rfl⟩ h Y
 unfold R2.B3 at h
 have Z := Df H
 refine Aj I (Aa fun aj aa => Cl I Z (vL ?_))
 subst aa
 refine vM (vN (Aa fun ak ab => vH (Al 3 [.x 1 i (C1 b)] I ⟨⟨I, Ae X⟩, J⟩ (vJ [] I (Bm [.V 0, .V 0, .V 0] 3 fun al => Af 1 I (vJ [1] I (A3 1 0 0 [C1 b] I (vI ?_))))))))
 subst ab
 refine Ah (fun s ob => ∃ (B : Bool), R2.J4 B = some W ∧ s = [(83, .v (.bool B))] ∧ ob = [O9 u [Ap a]]) (K4 1 51 52 53) J4 ?_ ?_
 rcases bt (decide ((i : Int) > 0)) with j | j
 have h := B0 j h
 obtain ⟨D, ⟨ac, ad⟩, h⟩ := Ba h
 refine Bi (pd 26 0 [17, 23]) [1, 0] [_, _] I (A9 3 I (Bk 60 I j (Br 12 [.o 1 0, .o 3 1, .x 6 D.1 (C1 D.2)] I ⟨⟨ac, Ae ad⟩, I, I, J⟩ ?_)))
 rcases bt (decide (b.At ≤ D.2.At)) with n | n
 have h := B0 n h
 exact Bk 72 I n (A9 11 I (An (vI (lg ⟨true, h, I2⟩ [0]))))
 have h := B8 n h
 refine Bk 72 I n (Br 2 [.o 1 0] I J1 (H8 I (De b.Height (-500) 5000 _ I) (A9 3 I ?_)))
 rcases bt ((!(Ct b.Height (-500) 5000))) with p | p
 have h := B0 p h
 exact Bk 78 I p (A9 5 I (An (vI (lg ⟨true, h, I2⟩ [0]))))
 have h := B8 p h
 exact Bk 78 I p (Br 2 [.o 1 0] I J1 (H8 I (De b.Limit 0 100000000 _ I) (A9 2 I (An (vI (lg ⟨(!(Ct b.Limit 0 100000000)), h, I2⟩ [0]))))))
 have h := B8 j h
 refine Bi (pd 26 0 [17, 23]) [1] [_] I (A9 3 I (Bk 60 I j (Br 14 [.o 13 0] I J1 (H8 I (De b.Height (-500) 5000 _ I) (A9 3 I ?_)))))
 rcases bt ((!(Ct b.Height (-500) 5000))) with t | t
 have h := B0 t h
 exact Bk 78 I t (A9 5 I (An (vI (lg ⟨true, h, I2⟩ [0]))))
 have h := B8 t h
 exact Bk 78 I t (Br 2 [.o 1 0] I J1 (H8 I (De b.Limit 0 100000000 _ I) (A9 2 I (An (vI (lg ⟨(!(Ct b.Limit 0 100000000)), h, I2⟩ [0]))))))
 rintro s ob ⟨B, h, rfl, rfl⟩
 refine Ao h I ?_ ?_
 intro ae h
 refine Aj I ?_
 obtain rfl := Y _ (oi h).symm
 have h := F
 have h := Do h
 refine vP g0 ?_
 cases io h
 exact vO pr
 intro ae h
 refine vL (vH (Al 2 [.k 0 (i + 1 : Nat)] I ⟨Bj H S, J⟩ ?_))
 cases io h
 exact vI ⟨_, _, _, I, I2, J4, pk [0]⟩
 rintro G s ob ⟨rfl, rfl⟩ he
 subst he
 have h := Dn F
 have af := Dg a.Points.length
 exact Aj I (Aa fun am an => Cm I af (vQ (lg ⟨(), h, I2⟩ [])))
 rintro s ob ⟨E, h, rfl, rfl⟩
 unfold R2.J2 at h
 refine Aj I ?_
 cases io h
 exact vO pr
theorem Kv (a : Nw) (r : Int) (h : Ff a = some r) : ACalls Ai 69 [.agg (Ab a)] [] (RV (.V r)) := by
 refine Ag Tryz.func69 I I I fun C hC => ?_
 unfold Ff at h
 refine Aa fun y1 bn => vH (vJ [] I (Bh (Ab a) 6 fun b => Af 1 I (vI ?_)))
 subst bn
 refine Aa fun y3 bo => D2 49 ((!(Ct (a.Nodes.length : Int) 1 24)) || (decide ((a.Segments.length : Int) > 32) || (decide ((a.Ports.length : Int) > 24) || decide ((a.Stations.length : Int) > 12)))) ?_ ?_
 refine vH (Al 3 [.o 1 0, .l 2 (a.Nodes.length : Int)] I ⟨A8, I, J⟩ (vU (De (a.Nodes.length : Int) 1 24 _ I) (Af 2 I ?_)))
 rcases bt ((!(Ct (a.Nodes.length : Int) 1 24))) with g | g
 exact Ad 32 I g (Af 17 I (vI (jf (by simp only [g, bz]) I I I2)))
 refine Ad 32 I g (Al 6 [.o 1 0, .l 2 (a.Segments.length : Int)] I ⟨A8, I, J⟩ ?_)
 rcases bt (decide ((a.Segments.length : Int) > 32)) with j | j
 exact Ad 38 I j (Af 11 I (vI (jf (by simp only [g, j, bz]) I I I2)))
 refine Ad 38 I j (Al 6 [.o 1 0, .l 2 (a.Ports.length : Int)] I ⟨A8, I, J⟩ ?_)
 rcases bt (decide ((a.Ports.length : Int) > 24)) with t | t
 exact Ad 44 I t (Af 5 I (vI (jf (by simp only [g, j, t, bz]) I I I2)))
 exact Ad 44 I t (Al 5 [.o 1 0, .l 2 (a.Stations.length : Int)] I ⟨A8, I, J⟩ (vI (jf (by simp only [g, j, t, bz]) I I I2)))
 refine Ao h I ?_ ?_
 intro bp h
 refine Aj I (vP g0 ?_)
 cases io h
 exact vO pr
 intro bp h
 refine vL ?_
 subst bo
 refine Ah (fun s ob => ∃ (Z : Unit), Ff.J1 a Z = some r ∧ s = [] ∧ ob = [O0 b [Ab a]]) [(1, _)] J1 ?_ ?_
 refine Bl [.o 1 0, .l 2 (a.Segments.length : Int)] I ⟨A8, I, J⟩ (vN (Cu 51 I fun bq => ?_))
 obtain ⟨e4, br, aa⟩ := Ac h
 refine Cv br (K3 1 51 52) J3 (fun (B : Nat) (ab : Unit) s ob => s = [(53, .V (B : Int))] ∧ ob = [O0 b [Ab a]]) ⟨I, I⟩ ⟨I, J⟩ (pk [0]) ?_ ?_
 rintro B D ab e5 s ob bs ac ⟨rfl, rfl⟩ h bu
 have bv := Df ac
 refine Aj I (Aa fun e6 bw => Cl I bv (vL ?_))
 subst bw
 refine vM (vN (vM (vH (Al 2 [.x 0 B (Ap D)] I ⟨⟨I, Ae bs⟩, J⟩ (vJ [] I (Bm W4 7 fun e7 => vJ [1] I (A3 1 0 0 [Ap D] I (vI (vM (vH (Al 3 [.o 1 1, .l 2 (D.Points.length : Int)] I ⟨A8, I, J⟩ (vU (De (D.Points.length : Int) 2 8 _ I) (Af 1 I ?_)))))))))))))
 refine vI (Ao h I ?_ ?_)
 intro bx h
 refine Aj I ?_
 obtain rfl := bu _ (oi h).symm
 have h := aa
 have h := Do h
 refine vP g0 ?_
 cases io h
 exact vO pr
 intro bx h
 refine vL (vH (Al 2 [.k 0 (B + 1 : Nat)] I ⟨Bj ac bq, J⟩ ?_))
 cases io h
 exact vI ⟨_, _, _, I, I2, J4, pk [0]⟩
 rintro ab s ob ⟨rfl, rfl⟩ he
 subst he
 have h := Dn aa
 have b0 := Dg a.Segments.length
 exact Aj I (Aa fun e8 e9 => Cm I b0 (vQ (lg ⟨(), h, I2⟩ [0])))
 rintro s ob ⟨Z, h, rfl, rfl⟩
 refine Aa fun fa b1 => ?_
 obtain ⟨f, b3, h⟩ := Ac h
 refine vH (Al 1 [.o 0 0] I J1 (vJ [] I (Bp I I I (iL _ _ b3) dS ?_)))
 rintro _ _ ⟨rfl, rfl⟩
 refine vJ [] I (Bm W1 4 fun E => vJ [1] I (vT 1 0 0 (es' := [f.l.map (cL 1 rS)]) I I I I I I I (by simp [Arr.h, Bq]) (by simp [Arr.h, Bq]) I (congrArg (fun r => [r]) (Mu (by simp [Arr.h, Bq]))) (vI ?_)))
 subst b1
 refine Ah (fun s ob => ∃ (ad : Unit), Ff.J2 a f ad = some r ∧ s = [] ∧ ob = [O0 b [Ab a], O6 E [f.l.map (cL 1 rS)]]) (K2 1 5) J2 ?_ ?_
 refine Aa fun fb b4 => vH (vS (Bv 1 0 0 I I I I I (y := .agg (f.l.map (cL 1 rS))) (Mw I (by simp [Arr.h, Bq]))) I (Af 1 I (vI ?_)))
 subst b4
 refine vN ?_
 have b5 : (4 : Nat) ≤ 9223372036854775806 := by decide
 obtain ⟨fc, b6, ae⟩ := Ac h
 refine Gi b6 (K3 1 5 65) J3 (fun (F : Nat) (af : Unit) s ob => s = [(66, .V (F : Int))] ∧ ob = [O0 b [Ab a], O6 E [f.l.map (cL 1 rS)]]) ⟨I, I⟩ ⟨I, J⟩ (pk [0, 1]) ?_ ?_
 rintro F af b7 s ob b8 ⟨rfl, rfl⟩ h b9
 unfold Ff.B21 at h
 have ca : decide ((F : Int) < 4) = true := decide_eq_true (by omega)
 refine Aj I (Aa fun fd cb => Cl I ca (vL ?_))
 subst cb
 refine Ah (fun s ob => ∃ (ag : Unit), Ff.J22 ag = some b7 ∧ s = [] ∧ ob = [O0 b [Ab a], O6 E [f.l.map (cL 1 rS)]]) (K4 1 5 65 66) J4 ?_ ?_
 refine vN (Aa fun fe cc => ?_)
 obtain ⟨U, ⟨cd, ce⟩, h⟩ := Ba h
 refine vH (Ch (Gl (m := U.1) I I I I I I I cd ce (hlen := Arr.h _)) I (Af 1 I (vI ?_)))
 subst cc
 refine Bl [.l 1 (U.2.length : Int)] I ⟨A8, J⟩ (vN (Cu 69 I fun cf => ?_))
 obtain ⟨ff, cg, ah⟩ := Ac h
 refine Cv cg (K6 1 5 65 66 69 70) J6 (fun (G : Nat) (ai : Unit) s ob => s = [(71, .V (G : Int))] ∧ ob = [O0 b [Ab a], O6 E [f.l.map (cL 1 rS)]]) ⟨I, I⟩ ⟨I, J⟩ (pk [0, 1]) ?_ ?_
 rintro G ci ai fg s ob cj aj ⟨rfl, rfl⟩ h ck
 have cl := Df aj
 refine Aj I (Aa fun fh cm => Cl I cl (vL ?_))
 subst cm
 refine vM (vN (Bl [.x 0 G (rS ci)] I ⟨⟨I, Ae cj⟩, J⟩ (vM ?_)))
 obtain ⟨fi, cn, h⟩ := Ac h
 refine vH (Af 1 I (vU (iK _ _ cn) (Af 1 I (vI (Ao h I ?_ ?_)))))
 intro co h
 refine Aj I ?_
 obtain rfl := ck _ (oi h).symm
 have h := ah
 have h := Do h
 obtain rfl := b9 _ (oi h).symm
 have h := ae
 have h := Do h
 refine vP g0 ?_
 cases io h
 exact vO pr
 intro co h
 refine vL (vH (Al 2 [.k 0 (G + 1 : Nat)] I ⟨Bj aj cf, J⟩ ?_))
 cases io h
 exact vI ⟨_, _, _, I, I2, J7, pk [0, 1]⟩
 rintro ai s ob ⟨rfl, rfl⟩ he
 subst he
 have h := Dn ah
 have cp := Dg U.2.length
 exact Aj I (Aa fun fj fk => Cm I cp (vQ (lg ⟨(), h, I2⟩ [0, 1])))
 rintro s ob ⟨ag, h, rfl, rfl⟩
 unfold Ff.J22 at h
 refine vH (Al 2 [.k 0 (F + 1 : Nat)] I ⟨Bj b8 b5, J⟩ ?_)
 cases io h
 exact vI ⟨_, _, _, I, I2, J4, pk [0, 1]⟩
 rintro af s ob ⟨rfl, rfl⟩ he
 subst he
 have h := Dn ae
 have cq : decide (((4 : Nat) : Int) < 4) = false := by simp
 exact Aj I (Aa fun fl fm => Cm I cq (vQ (lg ⟨(), h, I2⟩ [0, 1])))
 rintro s ob ⟨ad, h, rfl, rfl⟩
 unfold Ff.J2 at h
 refine Ah (fun s ob => ∃ (ak : Unit), Ff.J3 a ak = some r ∧ s = [] ∧ ob = [O0 b [Ab a]]) [(1, _)] J1 ?_ ?_
 refine Aa fun fn cr => vH (vS (Bv 1 0 0 I I I I I (y := .agg (f.l.map (cL 1 rS))) (Mw I (by simp [Arr.h, Bq]))) I (Af 1 I (vI ?_)))
 subst cr
 refine vN ?_
 have ct : (4 : Nat) ≤ 9223372036854775806 := by decide
 obtain ⟨fo, cu, al⟩ := Ac h
 refine Gi cu (K2 1 80) J2 (fun (H : Nat) (am : Unit) s ob => s = [(81, .V (H : Int))] ∧ ob = [O0 b [Ab a]]) ⟨I, I⟩ ⟨I, J⟩ (pk [0]) ?_ ?_
 rintro H am fp s ob cv ⟨rfl, rfl⟩ h cw
 have cx : decide ((H : Int) < 4) = true := decide_eq_true (by omega)
 refine Aj I (Aa fun fq cy => Cl I cx (vL ?_))
 subst cy
 refine vM (vN (vM ?_))
 obtain ⟨cz, ⟨c0, c1⟩, h⟩ := Ba h
 refine vH (Ch (Gl (m := cz.1) I I I I I I I c0 c1 (hlen := Arr.h _)) I (Af 1 I (vI (vM ?_))))
 obtain ⟨fr, c2, h⟩ := Ac h
 refine vH (Af 1 I (vU (jK _ _ c2) (vI (Ao h I ?_ ?_))))
 intro c3 h
 refine Aj I ?_
 obtain rfl := cw _ (oi h).symm
 have h := al
 have h := Do h
 refine vP g0 ?_
 cases io h
 exact vO pr
 intro c3 h
 refine vL (vH (Al 2 [.k 0 (H + 1 : Nat)] I ⟨Bj cv ct, J⟩ ?_))
 cases io h
 exact vI ⟨_, _, _, I, I2, J3, pk [0]⟩
 rintro am s ob ⟨rfl, rfl⟩ he
 subst he
 have h := Dn al
 have c4 : decide (((4 : Nat) : Int) < 4) = false := by simp
 exact Aj I (Aa fun fs ft => Cm I c4 (vQ (lg ⟨(), h, I2⟩ [0])))
 rintro s ob ⟨ak, h, rfl, rfl⟩
 unfold Ff.J3 at h
 refine Ah (fun s ob => ∃ (an : Unit), Ff.J4 a an = some r ∧ s = [] ∧ ob = [O0 b [Ab a]]) [(1, _)] J1 ?_ ?_
 refine Bl [.o 1 0, .l 2 (a.Stations.length : Int)] I ⟨A8, I, J⟩ (vN (Cu 88 I fun c5 => ?_))
 obtain ⟨fu, c6, ao⟩ := Ac h
 refine Cv c6 (K2 1 89) J2 (fun (K : Nat) (ap : Unit) s ob => s = [(90, .V (K : Int))] ∧ ob = [O0 b [Ab a]]) ⟨I, I⟩ ⟨I, J⟩ (pk [0]) ?_ ?_
 rintro K c7 ap c8 s ob c9 aq ⟨rfl, rfl⟩ h da
 unfold Ff.B17 at h
 have db := Df aq
 refine Aj I (Aa fun fv dc => Cl I db (vL ?_))
 subst dc
 refine Ah (fun s ob => ∃ (ar : Unit), Ff.J18 ar = some c8 ∧ s = [] ∧ ob = [O0 b [Ab a]]) (K3 1 89 90) J3 ?_ ?_
 refine vN (Aj I (Aj I (vN ?_)))
 obtain ⟨fw, dd, au⟩ := Ac h
 refine Bo dd (K4 1 12 89 90) J4 (fun (av : Int) s ob => s = [(13, .V av)] ∧ ob = [O0 b [Ab a]]) ⟨I, I⟩ ⟨I, J⟩ (pk [0]) ?_
 rintro av fx s ob ⟨rfl, rfl⟩ h aw
 refine Aa fun fy de => Aj I (Ao h I ?_ ?_)
 intro df h
 refine vL ?_
 subst de
 refine vM (vN (vM ?_))
 obtain ⟨ax, ⟨dg, dh⟩, h⟩ := Ba h
 refine Ys (pd 13 0 []) [0] [_] [.o 1 0, .x 3 K (Bn c7), .o 7 0, .x 9 ax.1 (Bn ax.2)] I I ⟨⟨dg, Ae dh⟩, I, ⟨I, Ae c9⟩, I, J⟩ (Ao h I ?_ ?_)
 intro di h
 refine Aj I ?_
 obtain rfl := aw _ (oi h).symm
 have h := au
 have h := Dn h
 obtain rfl := da _ (oi h).symm
 have h := ao
 have h := Do h
 refine vP g0 ?_
 cases io h
 exact vO pr
 intro di h
 refine vL (vH (Af 3 I ?_))
 cases io h
 exact vI ⟨_, _, _, I, I2, J5, pk [0]⟩
 intro df h
 obtain rfl := aw _ (oi h).symm
 have h := au
 have h := Do h
 exact vQ (lg ⟨(), h, I2⟩ [0])
 rintro s ob ⟨ar, h, rfl, rfl⟩
 unfold Ff.J18 at h
 refine vH (Al 2 [.k 0 (K + 1 : Nat)] I ⟨Bj aq c5, J⟩ ?_)
 cases io h
 exact vI ⟨_, _, _, I, I2, J3, pk [0]⟩
 rintro ap s ob ⟨rfl, rfl⟩ he
 subst he
 have h := Dn ao
 have dj := Dg a.Stations.length
 exact Aj I (Aa fun fz f0 => Cm I dj (vQ (lg ⟨(), h, I2⟩ [0])))
 rintro s ob ⟨an, h, rfl, rfl⟩
 unfold Ff.J4 at h
 refine Bl [.o 1 0, .l 2 (a.Nodes.length : Int)] I ⟨A8, I, J⟩ (Ah (fun s ob => ∃ (ay : Unit), Ff.J5 a ay = some r ∧ s = [] ∧ ob = [O0 b [Ab a]]) (K2 1 14) J2 ?_ ?_)
 refine Bl [.o 1 0, .l 2 (a.Segments.length : Int)] I ⟨A8, I, J⟩ (vN (Cu 117 I fun dk => ?_))
 obtain ⟨f1, dl, az⟩ := Ac h
 refine Cv dl (K4 1 14 117 118) J4 (fun (M : Nat) (a0 : Unit) s ob => s = [(119, .V (M : Int))] ∧ ob = [O0 b [Ab a]]) ⟨I, I⟩ ⟨I, J⟩ (pk [0]) ?_ ?_
 rintro M i a0 f2 s ob dm a1 ⟨rfl, rfl⟩ h dn
 unfold Ff.B16 at h
 have dp := Df a1
 refine Aj I (Aa fun f3 dq => Cl I dp (vL ?_))
 subst dq
 refine vM (vN (Aa fun f4 dr => vH (Al 2 [.x 0 M (Ap i)] I ⟨⟨I, Ae dm⟩, J⟩ (vJ [] I (Bm W4 7 fun f5 => vJ [1] I (A3 1 0 0 [Ap i] I (vI ?_)))))))
 subst dr
 refine D2 134 ((!(Ct i.From 0 (wr ((a.Nodes.length : Int) - 1)))) || (!(Ct i.To 0 (wr ((a.Nodes.length : Int) - 1))))) ?_ ?_
 refine vH (Al 3 [.o 1 1] I J1 (vU (De i.From 0 (wr ((a.Nodes.length : Int) - 1)) _ I) (Af 2 I ?_)))
 rcases bt ((!(Ct i.From 0 (wr ((a.Nodes.length : Int) - 1))))) with u | u
 exact Ad 128 I u (Af 6 I (vI (jf (by simp only [u, bz]) I I I2)))
 exact Ad 128 I u (Al 3 [.o 1 1] I J1 (Bf I I I (vU (De i.To 0 (wr ((a.Nodes.length : Int) - 1)) _ I) (Af 2 I (vI (jf (by simp only [u, bz]) I I I2))))))
 refine Ao h I ?_ ?_
 intro ds h
 refine Aj I ?_
 obtain rfl := dn _ (oi h).symm
 have h := az
 have h := Do h
 refine vP g0 ?_
 cases io h
 exact vO pr
 intro ds h
 refine vL (vH (Al 2 [.k 0 (M + 1 : Nat)] I ⟨Bj a1 dk, J⟩ ?_))
 cases io h
 exact vI ⟨_, _, _, I, I2, J5, pk [0]⟩
 rintro a0 s ob ⟨rfl, rfl⟩ he
 subst he
 have h := Dn az
 have du := Dg a.Segments.length
 exact Aj I (Aa fun f6 f7 => Cm I du (vQ (lg ⟨(), h, I2⟩ [0])))
 rintro s ob ⟨ay, h, rfl, rfl⟩
 unfold Ff.J5 at h
 refine Ah (fun s ob => ∃ (a2 : Unit), Ff.J6 a a2 = some r ∧ s = [] ∧ ob = [O0 b [Ab a]]) (K2 1 14) J2 ?_ ?_
 refine Bl [.o 1 0, .l 2 (a.Ports.length : Int)] I ⟨A8, I, J⟩ (vN (Cu 137 I fun dv => ?_))
 obtain ⟨f8, dw, a3⟩ := Ac h
 refine Cv dw (K4 1 14 137 138) J4 (fun (O : Nat) (a4 : Unit) s ob => s = [(139, .V (O : Int))] ∧ ob = [O0 b [Ab a]]) ⟨I, I⟩ ⟨I, J⟩ (pk [0]) ?_ ?_
 rintro O W a4 f9 s ob dx a5 ⟨rfl, rfl⟩ h dy
 have dz := Df a5
 refine Aj I (Aa fun ga d0 => Cl I dz (vL ?_))
 subst d0
 refine vM (vN (vM (vH (Al 2 [.x 0 O (Cc W)] I ⟨⟨I, Ae dx⟩, J⟩ (vJ [] I (Bm W6 3 fun gb => vJ [1] I (A3 1 0 0 [Cc W] I (vI (vM (vH (Al 3 [.o 1 1] I J1 (vU (De W.Node 0 (wr ((a.Nodes.length : Int) - 1)) _ I) (Af 1 I ?_)))))))))))))
 refine vI (Ao h I ?_ ?_)
 intro d1 h
 refine Aj I ?_
 obtain rfl := dy _ (oi h).symm
 have h := a3
 have h := Do h
 refine vP g0 ?_
 cases io h
 exact vO pr
 intro d1 h
 refine vL (vH (Al 2 [.k 0 (O + 1 : Nat)] I ⟨Bj a5 dv, J⟩ ?_))
 cases io h
 exact vI ⟨_, _, _, I, I2, J5, pk [0]⟩
 rintro a4 s ob ⟨rfl, rfl⟩ he
 subst he
 have h := Dn a3
 have d2 := Dg a.Ports.length
 exact Aj I (Aa fun gc gd => Cm I d2 (vQ (lg ⟨(), h, I2⟩ [0])))
 rintro s ob ⟨a2, h, rfl, rfl⟩
 unfold Ff.J6 at h
 refine Ah (fun s ob => ∃ (a6 : Unit), Ff.J7 a a6 = some r ∧ s = [] ∧ ob = [O0 b [Ab a]]) [(1, _)] J1 ?_ ?_
 refine Bl [.o 1 0, .l 2 (a.Stations.length : Int)] I ⟨A8, I, J⟩ (vN (Cu 150 I fun d3 => ?_))
 obtain ⟨ge, d4, a7⟩ := Ac h
 refine Cv d4 (K4 1 14 150 151) J4 (fun (P : Nat) (a8 : Unit) s ob => s = [(152, .V (P : Int))] ∧ ob = [O0 b [Ab a]]) ⟨I, I⟩ ⟨I, J⟩ (pk [0]) ?_ ?_
 rintro P X a8 gf s ob d5 a9 ⟨rfl, rfl⟩ h d6
 have d7 := Df a9
 refine Aj I (Aa fun gg d8 => Cl I d7 (vL ?_))
 subst d8
 refine vM (vN (vM (vH (Al 2 [.x 0 P (Bn X)] I ⟨⟨I, Ae d5⟩, J⟩ (vJ [] I (Bm W7 5 fun gh => vJ [1] I (A3 1 0 0 [Bn X] I (vI (vM (vH (Al 3 [.o 1 1] I J1 (vU (De X.Node 0 (wr ((a.Nodes.length : Int) - 1)) _ I) (Af 1 I ?_)))))))))))))
 refine vI (Ao h I ?_ ?_)
 intro d9 h
 refine Aj I ?_
 obtain rfl := d6 _ (oi h).symm
 have h := a7
 have h := Do h
 refine vP g0 ?_
 cases io h
 exact vO pr
 intro d9 h
 refine vL (vH (Al 2 [.k 0 (P + 1 : Nat)] I ⟨Bj a9 d3, J⟩ ?_))
 cases io h
 exact vI ⟨_, _, _, I, I2, J5, pk [0]⟩
 rintro a8 s ob ⟨rfl, rfl⟩ he
 subst he
 have h := Dn a7
 have ea := Dg a.Stations.length
 exact Aj I (Aa fun gi gj => Cm I ea (vQ (lg ⟨(), h, I2⟩ [0])))
 rintro s ob ⟨a6, h, rfl, rfl⟩
 unfold Ff.J7 at h
 refine Ah (fun s ob => ∃ (ba : Unit), Ff.J8 a ba = some r ∧ s = [] ∧ ob = [O0 b [Ab a]]) [(1, _)] J1 ?_ ?_
 refine Bl [.o 1 0, .l 2 (a.Segments.length : Int)] I ⟨A8, I, J⟩ (vN (Cu 163 I fun eb => ?_))
 obtain ⟨gk, ec, bb⟩ := Ac h
 refine Cv ec (K3 1 163 164) J3 (fun (Q : Nat) (bc : Unit) s ob => s = [(165, .V (Q : Int))] ∧ ob = [O0 b [Ab a]]) ⟨I, I⟩ ⟨I, J⟩ (pk [0]) ?_ ?_
 rintro Q bd bc gl s ob ed be ⟨rfl, rfl⟩ h ee
 have ef := Df be
 refine Aj I (Aa fun gm eg => Cl I ef (vL ?_))
 subst eg
 refine vM (vN (vM (vH (Al 2 [.x 0 Q (Ap bd)] I ⟨⟨I, Ae ed⟩, J⟩ (vJ [] I (Bm W4 7 fun gn => vJ [1] I (A3 1 0 0 [Ap bd] I (vI (vM ?_)))))))))
 obtain ⟨go, eh, h⟩ := Ac h
 refine vH (Al 1 [.o 0 1] I J1 (vU (iJ _ _ eh) (Af 1 I (vI (Ao h I ?_ ?_)))))
 intro ei h
 refine Aj I ?_
 obtain rfl := ee _ (oi h).symm
 have h := bb
 have h := Do h
 refine vP g0 ?_
 cases io h
 exact vO pr
 intro ei h
 refine vL (vH (Al 2 [.k 0 (Q + 1 : Nat)] I ⟨Bj be eb, J⟩ ?_))
 cases io h
 exact vI ⟨_, _, _, I, I2, J4, pk [0]⟩
 rintro bc s ob ⟨rfl, rfl⟩ he
 subst he
 have h := Dn bb
 have ej := Dg a.Segments.length
 exact Aj I (Aa fun gp gq => Cm I ej (vQ (lg ⟨(), h, I2⟩ [0])))
 rintro s ob ⟨ba, h, rfl, rfl⟩
 unfold Ff.J8 at h
 refine Ah (fun s ob => ∃ (bf : Unit), Ff.J9 a bf = some r ∧ s = [] ∧ ob = [O0 b [Ab a]]) [(1, _)] J1 ?_ ?_
 refine Bl [.o 1 0, .l 2 (a.Ports.length : Int)] I ⟨A8, I, J⟩ (vN (Cu 174 I fun ek => ?_))
 obtain ⟨gr, el, bg⟩ := Ac h
 refine Cv el (K3 1 174 175) J3 (fun (R : Nat) (bh : Unit) s ob => s = [(176, .V (R : Int))] ∧ ob = [O0 b [Ab a]]) ⟨I, I⟩ ⟨I, J⟩ (pk [0]) ?_ ?_
 rintro R Y bh gs s ob em bi ⟨rfl, rfl⟩ h en
 have eo := Df bi
 refine Aj I (Aa fun gu ep => Cl I eo (vL ?_))
 subst ep
 refine vM (vN (vM (vH (Al 2 [.x 0 R (Cc Y)] I ⟨⟨I, Ae em⟩, J⟩ (vJ [] I (Bm W6 3 fun gv => vJ [1] I (A3 1 0 0 [Cc Y] I (vI (vM (vH (Al 2 [.o 1 1] I J1 (vU (De Y.Pressure 0 100000000 _ I) (Af 1 I ?_)))))))))))))
 refine vI (Ao h I ?_ ?_)
 intro eq h
 refine Aj I ?_
 obtain rfl := en _ (oi h).symm
 have h := bg
 have h := Do h
 refine vP g0 ?_
 cases io h
 exact vO pr
 intro eq h
 refine vL (vH (Al 2 [.k 0 (R + 1 : Nat)] I ⟨Bj bi ek, J⟩ ?_))
 cases io h
 exact vI ⟨_, _, _, I, I2, J4, pk [0]⟩
 rintro bh s ob ⟨rfl, rfl⟩ he
 subst he
 have h := Dn bg
 have er := Dg a.Ports.length
 exact Aj I (Aa fun gw gx => Cm I er (vQ (lg ⟨(), h, I2⟩ [0])))
 rintro s ob ⟨bf, h, rfl, rfl⟩
 unfold Ff.J9 at h
 refine Ah (fun s ob => ∃ (bj : Unit), Ff.J10 a bj = some r ∧ s = [] ∧ ob = [O0 b [Ab a]]) [(1, _)] J1 ?_ ?_
 refine Bl [.o 1 0, .l 2 (a.Stations.length : Int)] I ⟨A8, I, J⟩ (vN (Cu 186 I fun es => ?_))
 obtain ⟨gy, et, bk⟩ := Ac h
 refine Cv et (K3 1 186 187) J3 (fun (S : Nat) (bl : Unit) s ob => s = [(188, .V (S : Int))] ∧ ob = [O0 b [Ab a]]) ⟨I, I⟩ ⟨I, J⟩ (pk [0]) ?_ ?_
 rintro S e bl gz s ob eu bm ⟨rfl, rfl⟩ h ev
 unfold Ff.B11 at h
 have ew := Df bm
 refine Aj I (Aa fun g1 ex => Cl I ew (vL ?_))
 subst ex
 refine vM (vN (Aa fun g2 ey => vH (Al 2 [.x 0 S (Bn e)] I ⟨⟨I, Ae eu⟩, J⟩ (vJ [] I (Bm W7 5 fun g3 => vJ [1] I (A3 1 0 0 [Bn e] I (vI ?_)))))))
 subst ey
 refine D2 207 ((!(Ct e.Head 0 100000000)) || ((!(Ct e.Fall 0 100000)) || (!(Ct e.Suction 0 100000000)))) ?_ ?_
 refine vH (Al 2 [.o 1 1] I J1 (vU (De e.Head 0 100000000 _ I) (Af 2 I ?_)))
 rcases bt ((!(Ct e.Head 0 100000000))) with n | n
 exact Ad 196 I n (Af 11 I (vI (jf (by simp only [n, bz]) I I I2)))
 refine Ad 196 I n (Al 2 [.o 1 1] I J1 (Bf I I I (vU (De e.Fall 0 100000 _ I) (Af 3 I ?_))))
 rcases bt ((!(Ct e.Fall 0 100000))) with w | w
 exact Ad 202 I w (Af 5 I (vI (jf (by simp only [n, w, bz]) I I I2)))
 exact Ad 202 I w (Al 2 [.o 1 1] I J1 (Bf I I I (vU (De e.Suction 0 100000000 _ I) (Af 2 I (vI (jf (by simp only [n, w, bz]) I I I2))))))
 refine Ao h I ?_ ?_
 intro ez h
 refine Aj I ?_
 obtain rfl := ev _ (oi h).symm
 have h := bk
 have h := Do h
 refine vP g0 ?_
 cases io h
 exact vO pr
 intro ez h
 refine vL (vH (Al 2 [.k 0 (S + 1 : Nat)] I ⟨Bj bm es, J⟩ ?_))
 cases io h
 exact vI ⟨_, _, _, I, I2, J4, pk [0]⟩
 rintro bl s ob ⟨rfl, rfl⟩ he
 subst he
 have h := Dn bk
 have e0 := Dg a.Stations.length
 exact Aj I (Aa fun g4 g5 => Cm I e0 (vQ (lg ⟨(), h, I2⟩ [0])))
 rintro s ob ⟨bj, h, rfl, rfl⟩
 unfold Ff.J10 at h
 refine vM (D2 218 ((!(Ct a.Vapour (-100000) 100000000)) || (!(Ct a.Settle 0 100))) ?_ ?_)
 refine vH (Al 2 [.o 1 0] I J1 (vU (De a.Vapour (-100000) 100000000 _ I) (Af 2 I ?_)))
 rcases bt ((!(Ct a.Vapour (-100000) 100000000))) with A | A
 exact Ad 213 I A (Af 5 I (vI (jf (by simp only [A, bz]) I I I2)))
 exact Ad 213 I A (Al 2 [.o 1 0] I J1 (Bf I I I (vU (De a.Settle 0 100 _ I) (Af 2 I (vI (jf (by simp only [A, bz]) I I I2))))))
 refine Ao h I ?_ ?_
 intro e1 h
 refine Aj I (vP g0 ?_)
 cases io h
 exact vO pr
 intro e1 h
 refine vL (Aj I (vP g0 ?_))
 cases io h
 exact vO pr
theorem Wc (a : Sg) (b : Int) (r : Int × Int) (h : G4 a b = r) : ACalls Ai 116 [.agg (Ap a), .V b] [] (RV (.tup [.V r.1, .V r.2])) := by
 refine Ag Tryz.func116 I I I fun C hC => ?_
 refine Aa fun e c => vH (vJ [] I (Bh (Ap a) 7 fun f => Af 2 I (vI ?_)))
 subst c
 refine vM (Aj I (Ao h I ?_ ?_))
 intro d h
 refine Qw (pd 6 0 []) [0] [_] [.o 1 0, .o 3 0] I I J2 (vP g0 ?_)
 obtain rfl := h
 exact vO ⟨.inr I, [_, _], [], J2, Cf, I2⟩
 intro d h
 refine vL (Qw (pd 6 0 []) [0] [_] [.o 1 0, .o 3 0] I I J2 (vP g0 ?_))
 obtain rfl := h
 exact vO ⟨.inr I, [_, _], [], J2, Cf, I2⟩
theorem Wb (d : Nw) (e : Plan) (n : Int) (r : Int × Int) (h : Jp d e n = some r) : ACalls Ai 72 [.agg (Ab d), .agg (Ak e), .V n] [] (RV (.tup [.V r.1, .V r.2])) := by
 refine Ag Tryz.func72 I I I fun C hC => ?_
 unfold Jp at h
 refine Aa fun y1 Q => vH (vJ [] I (Bh (Ab d) 6 fun p => vJ [] I (Bh (Ak e) 3 fun g => Af 2 I (vI ?_))))
 subst Q
 refine Aj I (Ah (fun s ob => ∃ (t : Int × Int), Jp.J1 d e n t = some r ∧ s = [(8, .V t.1), (9, .V t.2)] ∧ ob = [O0 p [Ab d], O1 g [Ak e]]) (K3 2 3 4) J3 ?_ ?_)
 refine Bl [.o 1 0, .l 2 (d.Segments.length : Int)] I ⟨A8, I, J⟩ (vN (Cu 17 I fun R => ?_))
 obtain ⟨ar, S, U⟩ := Ac h
 refine Dm S (K5 2 3 4 17 18) J5 (fun (u : Nat) (b : Int × Int) s ob => s = [(19, .V (u : Int)), (8, .V b.1), (9, .V b.2)] ∧ ob = [O0 p [Ab d], O1 g [Ak e]]) ⟨I, I⟩ ⟨I, I, I, J⟩ (pk [0, 1]) ?_ ?_
 rintro u w b G s ob W H ⟨rfl, rfl⟩ h
 unfold Jp.B5 at h
 have X := Df H
 refine Aj I (Aa fun au Y => Cl I X (vL ?_))
 subst Y
 refine Ah (fun s ob => ∃ (y : Int × Int), Jp.J6 y = some G ∧ s = [(8, .V y.1), (9, .V y.2)] ∧ ob = [O0 p [Ab d], O1 g [Ak e]]) (K6 2 3 4 17 18 19) J6 ?_ ?_
 refine vN (Aa fun av Z => vH (Al 3 [.x 1 u (Ap w)] I ⟨⟨I, Ae W⟩, J⟩ (vJ [] I (Bm W4 7 fun aw => Af 1 I (vJ [2] I (A3 2 0 0 [Ap w] I (vI ?_)))))))
 subst Z
 refine Aa fun ax aa => vM ?_
 obtain ⟨a, ⟨A, B⟩, h⟩ := Ba h
 refine Hm [.o 1 1, .x 3 a.1 (rI a.2)] I ⟨⟨A, Ae B⟩, I, J⟩ (Ao h I ?_ ?_)
 intro ab h
 exact vQ (lg ⟨(b.1, b.2), h, I2⟩ [0, 1])
 intro ab h
 refine vL ?_
 subst aa
 refine Aa fun ay ac => Bi (pd 12 0 [6]) [2, 1] [_, _] I (Br 6 [.o 0 0, .o 2 1, .x 4 a.1 (rI a.2)] I ⟨⟨A, Ae B⟩, I, I, J⟩ (wE I (Wc w a.2 _ I) (A9 5 I (An (vI ?_)))))
 subst ac
 refine Ah (fun s ob => ∃ (j : Int), Jp.J7 n w b a j = some G ∧ s = [(9, .V j)] ∧ ob = [O0 p [Ab d], O1 g [Ak e]]) (K9 2 3 4 8 10 13 17 18 19) J9 ?_ ?_
 refine Aj I (Ao h I ?_ ?_)
 intro ad h
 exact vH (Al 6 [.o 2 1, .x 4 a.1 (rI a.2)] I ⟨⟨A, Ae B⟩, I, J⟩ (vU (Vs a.2 _ I) (Af 2 I (vI (lg ⟨wr (b.2 + (Jl a.2)), h, I2⟩ [0, 1])))))
 intro ad h
 exact vL (lg ⟨b.2, h, I2⟩ [0, 1])
 rintro s ob ⟨j, h, rfl, rfl⟩
 refine Aj I (Ao h I ?_ ?_)
 intro ae h
 exact vH (Al 6 [.o 2 1, .x 4 a.1 (rI a.2)] I ⟨⟨A, Ae B⟩, I, J⟩ (vU (Vs a.2 _ I) (Af 2 I (vI (lg ⟨(wr (b.1 + (Jl a.2)), j), h, I2⟩ [0, 1])))))
 intro ae h
 exact vL (lg ⟨(b.1, j), h, I2⟩ [0, 1])
 rintro s ob ⟨y, h, rfl, rfl⟩
 unfold Jp.J6 at h
 refine vH (Al 2 [.k 0 (u + 1 : Nat)] I ⟨Bj H R, J⟩ ?_)
 cases io h
 exact vI (lg I2 [0, 1])
 rintro b s ob ⟨rfl, rfl⟩ he
 subst he
 have h := U
 have af := Dg d.Segments.length
 exact Aj I (Aa fun az a0 => Cm I af (vQ (lg ⟨(b.1, b.2), h, I2⟩ [0, 1])))
 rintro s ob ⟨t, h, rfl, rfl⟩
 unfold Jp.J1 at h
 refine Ah (fun s ob => ∃ (D : Int × Int), Jp.J2 D = some r ∧ s = [(8, .V D.1), (9, .V D.2)] ∧ ob = []) [] J ?_ ?_
 refine Bl [.o 1 0, .l 2 (d.Ports.length : Int)] I ⟨A8, I, J⟩ (vN (Cu 64 I fun ag => ?_))
 obtain ⟨a1, ah, ai⟩ := Ac h
 refine Dm ah (K4 2 4 64 65) J4 (fun (E : Nat) (f : Int × Int) s ob => s = [(66, .V (E : Int)), (8, .V f.1), (9, .V f.2)] ∧ ob = [O1 g [Ak e]]) ⟨I, I⟩ ⟨I, I, I, J⟩ (pk [1]) ?_ ?_
 rintro E K f aj s ob ak M ⟨rfl, rfl⟩ h
 unfold Jp.B3 at h
 have al := Df M
 refine Aj I (Aa fun a2 am => Cl I al (vL ?_))
 subst am
 refine Ah (fun s ob => ∃ (F : Int × Int), Jp.J4 F = some aj ∧ s = [(8, .V F.1), (9, .V F.2)] ∧ ob = [O1 g [Ak e]]) (K5 2 4 64 65 66) J5 ?_ ?_
 refine vN (Aa fun a3 an => vH (Al 3 [.x 1 E (Cc K)] I ⟨⟨I, Ae ak⟩, J⟩ (vJ [] I (Bm W6 3 fun a4 => Af 1 I (vJ [1] I (A3 1 0 0 [Cc K] I (vI ?_)))))))
 subst an
 refine Bl [.o 1 1] I J1 (Ao h I ?_ ?_)
 intro ao h
 obtain ⟨i, ⟨O, P⟩, h⟩ := Ba h
 exact Ys (pd 19 0 []) [0] [_] [.o 2 0, .x 4 i.1 (rI i.2), .o 10 0, .x 12 i.1 (rI i.2)] I I ⟨⟨O, Ae P⟩, I, ⟨O, Ae P⟩, I, J⟩ (lg ⟨(wr (f.1 + (max 0 i.2)), wr (f.2 + (max 0 (wr (0 - i.2))))), h, I2⟩ [0])
 intro ao h
 exact vL (lg ⟨(f.1, f.2), h, I2⟩ [0])
 rintro s ob ⟨F, h, rfl, rfl⟩
 unfold Jp.J4 at h
 refine vH (Al 2 [.k 0 (E + 1 : Nat)] I ⟨Bj M ag, J⟩ ?_)
 cases io h
 exact vI (lg I2 [0])
 rintro f s ob ⟨rfl, rfl⟩ he
 subst he
 have h := ai
 have ap := Dg d.Ports.length
 exact Aj I (Aa fun a5 a6 => Cm I ap (vQ (lg ⟨(f.1, f.2), h, I2⟩ [])))
 rintro s ob ⟨D, h, rfl, rfl⟩
 unfold Jp.J2 at h
 refine Aj I ?_
 cases io h
 exact vO ⟨.inr I, [_, _], [], J2, Cf, I2⟩
theorem jJ (b : Nw) (g : Plan) (r : Li) (h : Oz b g = some r) : ACalls Ai 73 [.agg (Ab b), .agg (Ak g)] [] (fun x new => ∃ (R : Value), x = .v R ∧ new = [U0 R r]) := by
 refine Ag Tryz.func73 I I I fun C hC => ?_
 refine Aa fun y1 ad => vH (vJ [] I (Bh (Ab b) 6 fun i => vJ [] I (Bh (Ak g) 3 fun j => Af 1 I (vI ?_))))
 subst ad
 refine Aj I (Aa fun y5 ae => ?_)
 obtain ⟨l6, ⟨m8, af, ag, ah⟩, h⟩ := Fo h
 refine vH (Al 3 [.o 1 0, .l 2 (b.Nodes.length : Int)] I ⟨A8, I, J⟩ (vJ [] I (Dq (sz := 1) I I I I I I I I I I af ag (D5 (f := rB) ah I) dS fun n => Af 1 I (vI ?_))))
 subst ae
 refine vN (vP (A7 3 1) ?_)
 obtain ⟨bj, ai, aj⟩ := Ac h
 refine Bo ai (K3 2 3 6) J3 (fun (a : Li × (List Bool)) s ob => ∃ (e : Value), s = [(5, .v e)] ∧ ob = [O0 i [Ab b], O1 j [Ak g], U1 n a.2, U0 e a.1]) ⟨nS, I2⟩ ⟨I, J⟩ (pk N4) ?_
 rintro a ak s ob ⟨e, rfl, rfl⟩ h al
 unfold Oz.B1 at h
 refine vN (Aj I (Ah (fun s ob => ∃ (G : Int), Oz.J2 a G = some ak ∧ s = [(7, .V G)] ∧ ob = [O0 i [Ab b], O1 j [Ak g], U1 n a.2, U0 e a.1]) (K4 2 3 5 6) J4 ?_ ?_))
 refine Bl [.o 1 0, .l 2 (b.Nodes.length : Int)] I ⟨A8, I, J⟩ (vN (Cu 19 I fun am => ?_))
 obtain ⟨bk, an, ao⟩ := Ac h
 refine Dm an (K5 2 3 5 6 20) J5 (fun (u : Nat) (p : Int) s ob => s = [(21, .V (u : Int)), (7, .V p)] ∧ ob = [O0 i [Ab b], O1 j [Ak g], U1 n a.2, U0 e a.1]) ⟨I, I⟩ ⟨I, I, J⟩ (pk N4) ?_ ?_
 rintro u bl p S s ob bm U ⟨rfl, rfl⟩ h
 unfold Oz.B3 at h
 have aq := Df U
 refine Aj I (Aa fun bn ar => Cl I aq (vL ?_))
 subst ar
 refine Ah (fun s ob => ∃ (O : Int), Oz.J4 O = some S ∧ s = [(7, .V O)] ∧ ob = [O0 i [Ab b], O1 j [Ak g], U1 n a.2, U0 e a.1]) (K6 2 3 5 6 20 21) J6 ?_ ?_
 refine vN (Aj I (Aa fun bo au => ?_))
 obtain ⟨P, ⟨av, W⟩, h⟩ := Ba h
 refine vH (Af 2 I (vS (Bb 2 (m := P.1) I I I I I I I av (Ae W)) I (vS (Au 2 P.1 0 I I I (Ae W) I (y := .v (.bool P.2)) I) I (Af 2 I (vI ?_)))))
 subst au
 refine Ah (fun s ob => ∃ (B : Bool), Oz.J5 u p B = some S ∧ s = [(9, .v (.bool B))] ∧ ob = [O0 i [Ab b], O1 j [Ak g], U1 n a.2, U0 e a.1]) (K8 2 3 5 6 7 8 20 21) J8 ?_ ?_
 refine Bl [.o 1 0, .l 2 (b.Segments.length : Int)] I ⟨A8, I, J⟩ (vN (Cu 30 I fun aw => ?_))
 obtain ⟨bp, ax, ay⟩ := Ac h
 refine Dm ax (rM 2 3 5 6 7 8 20 21 30 31) oF (fun (H : Nat) (w : Bool) s ob => s = [(32, .V (H : Int)), (9, .v (.bool w))] ∧ ob = [O0 i [Ab b], O1 j [Ak g], U1 n a.2, U0 e a.1]) ⟨I, I⟩ ⟨I, I, J⟩ (pk N4) ?_ ?_
 rintro H K w az s ob a0 X ⟨rfl, rfl⟩ h
 unfold Oz.B6 at h
 have a1 := Df X
 refine Aj I (Aa fun bq a2 => Cl I a1 (vL ?_))
 subst a2
 refine Ah (fun s ob => ∃ (Q : Bool), Oz.J7 Q = some az ∧ s = [(9, .v (.bool Q))] ∧ ob = [O0 i [Ab b], O1 j [Ak g], U1 n a.2, U0 e a.1]) [(2, _), (3, _), (5, _), (6, _), (7, _), (8, _), (20, _), (21, _), (30, _), (31, _), (32, _)] qR ?_ ?_
 refine vN (Aa fun br a3 => vH (Al 3 [.x 1 H (Ap K)] I ⟨⟨I, Ae a0⟩, J⟩ (vJ [] I (Bm W4 7 fun bs => Af 1 I (vJ [4] I (A3 4 0 0 [Ap K] I (vI ?_)))))))
 subst a3
 refine Aa fun bu a4 => ?_
 obtain ⟨A, ⟨Y, Z⟩, h⟩ := Ba h
 refine Hm [.o 1 1, .x 3 A.1 (rI A.2)] I ⟨⟨Y, Ae Z⟩, I, J⟩ ?_
 subst a4
 refine Ao h I ?_ ?_
 intro a5 h
 refine Aa fun bv a6 => Bi (pd 12 0 [6]) [4, 1] [_, _] I (Br 6 [.o 0 0, .o 2 1, .x 4 A.1 (rI A.2)] I ⟨⟨Y, Ae Z⟩, I, I, J⟩ (wE I (Wc K A.2 _ I) (A9 5 I (An (vI ?_)))))
 subst a6
 refine vH (Af 2 I ?_)
 rcases bt (w) with D | D
 have h := B0 D h
 refine Ad 54 I D ?_
 rcases bt ((((G4 K A.2).2) != (u : Int))) with E | E
 have h := B0 E h
 exact Af 4 I (Ad 58 I E (Af 7 I (vI (lg ⟨true, h, I2⟩ N4))))
 have h := B8 E h
 obtain ⟨M, ⟨a7, aa⟩, h⟩ := Ba h
 exact Af 4 I (Ad 58 I E (Af 2 I (Bf I I I (vS (Bb 2 (m := M.1) I I I I I I I a7 (Ae aa)) I (Bf I I I (vS (Au 2 M.1 0 I I I (Ae aa) I (y := .v (.bool M.2)) I) I (Af 3 I (vI (lg ⟨M.2, h, I2⟩ N4)))))))))
 have h := B8 D h
 exact Ad 54 I D (Af 4 I (Ce I I dS (Ce I I dS (Ce I I dS (Ce I I dS (Af 3 I (vI (lg ⟨false, h, I2⟩ N4))))))))
 intro a5 h
 exact vL (lg ⟨w, h, I2⟩ N4)
 rintro s ob ⟨Q, h, rfl, rfl⟩
 unfold Oz.J7 at h
 refine vH (Al 2 [.k 0 (H + 1 : Nat)] I ⟨Bj X aw, J⟩ ?_)
 cases io h
 exact vI (lg I2 N4)
 rintro w s ob ⟨rfl, rfl⟩ he
 subst he
 have h := ay
 have a8 := Dg b.Segments.length
 exact Aj I (Aa fun bw bx => Cm I a8 (vQ (lg ⟨w, h, I2⟩ N4)))
 rintro s ob ⟨B, h, rfl, rfl⟩
 unfold Oz.J5 at h
 refine D2 70 (B && decide (p < 0)) ?_ ?_
 refine vH (Af 2 I ?_)
 rcases bt (B) with F | F
 exact Ad 67 I F (Af 3 I (vI (jf (by simp only [F, bz]) I I I2)))
 exact Ad 67 I F (Af 3 I (vI (jf (by simp only [F, bz]) I I I2)))
 refine Ao h I ?_ ?_
 intro a9 h
 exact Yl I (lg ⟨(u : Int), h, I2⟩ N4)
 intro a9 h
 exact vL (lg ⟨p, h, I2⟩ N4)
 rintro s ob ⟨O, h, rfl, rfl⟩
 unfold Oz.J4 at h
 refine vH (Al 2 [.k 0 (u + 1 : Nat)] I ⟨Bj U am, J⟩ ?_)
 cases io h
 exact vI (lg I2 N4)
 rintro p s ob ⟨rfl, rfl⟩ he
 subst he
 have h := ao
 have ba := Dg b.Nodes.length
 exact Aj I (Aa fun b0 b1 => Cm I ba (vQ (lg ⟨p, h, I2⟩ N4)))
 rintro s ob ⟨G, h, rfl, rfl⟩
 refine vM (Aj I (Ao h I ?_ ?_))
 intro bb h
 refine Aj I ?_
 obtain rfl := al _ (oi h).symm
 have h := aj
 refine Cd [3] I ?_
 obtain rfl := oi h
 exact vO ⟨.inr I, [_], [U0 e a.1], J1, Cy I (Cf), ⟨e, I2⟩⟩
 intro bb h
 refine vL (vM ?_)
 obtain ⟨b4, bc, h⟩ := Ac h
 refine vH (Af 2 I (vJ [] I (vR 1 (([G] : Li).map rI) (vJ [3] I (vV 3 I bc fun bd => Af 1 I (vI ?_))))))
 obtain ⟨ab, ⟨be, ac⟩, h⟩ := Ba h
 refine vH (Af 2 I (vS (Bb 2 (m := ab.1) I I I I I I I be (Ae ac)) I (vJ [2] I (Bg 2 ab.1 0 I I I (Ae ac) I I I I (A4 I) I (Ci (x := true) I) ?_))))
 cases io h
 exact vI ⟨_, _, _, I, ⟨bd, I2⟩, J4, pk N4⟩
theorem Ii (b : Nw) (a : Plan) (r : Int) (h : F2 b a = some r) : ACalls Ai 23 [.agg (Ab b), .agg (Ak a)] [] (RV (.V r)) := by
 refine Ag Tryz.func23 I I I fun C hC => ?_
 refine Aa fun y1 Q => vH (vJ [] I (Bh (Ab b) 6 fun d => vJ [] I (Bh (Ak a) 3 fun e => Af 1 I (vI ?_))))
 subst Q
 refine Aa fun y4 R => vM ?_
 obtain ⟨r5, S, h⟩ := Ac h
 refine vH (Al 1 [.o 0 0] I J1 (vU (Kv _ _ S) (Af 1 I (vI (Aj I (Ao h I ?_ ?_))))))
 intro U h
 refine Aj I (vP g0 ?_)
 cases io h
 exact vO pr
 intro U h
 refine vL ?_
 subst R
 refine Aa fun y8 W => D2 43 (((a.Rates.length : Int) != (b.Segments.length : Int)) || (((a.Ports.length : Int) != (b.Ports.length : Int)) || ((a.Pumps.length : Int) != (b.Stations.length : Int)))) ?_ ?_
 refine vH (Al 8 [.o 1 1, .l 2 (a.Rates.length : Int), .o 4 0, .l 5 (b.Segments.length : Int)] I ⟨A8, I, A8, I, J⟩ ?_)
 rcases bt (((a.Rates.length : Int) != (b.Segments.length : Int))) with f | f
 exact Ad 26 I f (Af 17 I (vI (jf (by simp only [f, bz]) I I I2)))
 refine Ad 26 I f (Al 9 [.o 1 1, .l 2 (a.Ports.length : Int), .o 4 0, .l 5 (b.Ports.length : Int)] I ⟨A8, I, A8, I, J⟩ ?_)
 rcases bt (((a.Ports.length : Int) != (b.Ports.length : Int))) with g | g
 exact Ad 35 I g (Af 8 I (vI (jf (by simp only [f, g, bz]) I I I2)))
 exact Ad 35 I g (Al 8 [.o 1 1, .l 2 (a.Pumps.length : Int), .o 4 0, .l 5 (b.Stations.length : Int)] I ⟨A8, I, A8, I, J⟩ (vI (jf (by simp only [f, g, bz]) I I I2)))
 refine Ao h I ?_ ?_
 intro X h
 refine Aj I (vP g0 ?_)
 cases io h
 exact vO pr
 intro X h
 refine vL ?_
 subst W
 refine Ah (fun s ob => ∃ (A : Unit), F2.J1 b a A = some r ∧ s = [] ∧ ob = [O0 d [Ab b], O1 e [Ak a]]) (K2 2 3) J2 ?_ ?_
 refine Bl [.o 1 1, .l 2 (a.Rates.length : Int)] I ⟨A8, I, J⟩ (vN (Cu 45 I fun Y => ?_))
 obtain ⟨a7, Z, B⟩ := Ac h
 refine Cv Z (K4 2 3 45 46) J4 (fun (p : Nat) (D : Unit) s ob => s = [(47, .V (p : Int))] ∧ ob = [O0 d [Ab b], O1 e [Ak a]]) ⟨I, I⟩ ⟨I, J⟩ (pk [0, 1]) ?_ ?_
 rintro p t D a8 s ob aa E ⟨rfl, rfl⟩ h ab
 have ac := Df E
 refine Aj I (Aa fun a9 ad => Cl I ac (vL ?_))
 subst ad
 refine vM (vN (Bl [.x 1 p (rI t)] I ⟨⟨I, Ae aa⟩, J⟩ (Aa fun ba ae => ?_)))
 obtain ⟨i, ⟨af, ag⟩, h⟩ := Ba h
 refine Hm [.o 1 0, .x 3 i.1 (Ap i.2)] I ⟨⟨af, Ae ag⟩, I, J⟩ ?_
 subst ae
 refine D2 67 (decide (t < (wr (0 - (min 1000 i.2.Capacity)))) || decide (t > (min 1000 i.2.Capacity))) ?_ ?_
 refine vH (Af 5 I ?_)
 rcases bt (decide (t < (wr (0 - (min 1000 i.2.Capacity))))) with j | j
 exact Ad 63 I j (Af 4 I (vI (jf (by simp only [j, bz]) I I I2)))
 exact Ad 63 I j (Af 4 I (vI (jf (by simp only [j, bz]) I I I2)))
 refine Ao h I ?_ ?_
 intro ah h
 refine Aj I ?_
 obtain rfl := ab _ (oi h).symm
 have h := B
 have h := Do h
 refine vP g0 ?_
 cases io h
 exact vO pr
 intro ah h
 refine vL (vH (Al 2 [.k 0 (p + 1 : Nat)] I ⟨Bj E Y, J⟩ ?_))
 cases io h
 exact vI ⟨_, _, _, I, I2, J5, pk [0, 1]⟩
 rintro D s ob ⟨rfl, rfl⟩ he
 subst he
 have h := Dn B
 have ai := Dg a.Rates.length
 exact Aj I (Aa fun bb bc => Cm I ai (vQ (lg ⟨(), h, I2⟩ [0, 1])))
 rintro s ob ⟨A, h, rfl, rfl⟩
 unfold F2.J1 at h
 refine Ah (fun s ob => ∃ (F : Unit), F2.J2 b a F = some r ∧ s = [] ∧ ob = [O0 d [Ab b], O1 e [Ak a]]) (K2 2 3) J2 ?_ ?_
 refine Bl [.o 1 1, .l 2 (a.Ports.length : Int)] I ⟨A8, I, J⟩ (vN (Cu 70 I fun aj => ?_))
 obtain ⟨bd, ak, G⟩ := Ac h
 refine Cv ak (K4 2 3 70 71) J4 (fun (u : Nat) (H : Unit) s ob => s = [(72, .V (u : Int))] ∧ ob = [O0 d [Ab b], O1 e [Ak a]]) ⟨I, I⟩ ⟨I, J⟩ (pk [0, 1]) ?_ ?_
 rintro u w H be s ob al K ⟨rfl, rfl⟩ h am
 unfold F2.B5 at h
 have an := Df K
 refine Aj I (Aa fun bf ao => Cl I an (vL ?_))
 subst ao
 refine vM (vN (Bl [.x 0 u (rI w)] I ⟨⟨I, Ae al⟩, J⟩ (D2 81 (decide (w < (-1000)) || decide (w > 1000)) ?_ ?_)))
 refine vH (Af 3 I ?_)
 rcases bt (decide (w < (-1000))) with n | n
 exact Ad 78 I n (Af 3 I (vI (jf (by simp only [n, bz]) I I I2)))
 exact Ad 78 I n (Af 3 I (vI (jf (by simp only [n, bz]) I I I2)))
 refine Ao h I ?_ ?_
 intro ap h
 refine Aj I ?_
 obtain rfl := am _ (oi h).symm
 have h := G
 have h := Do h
 refine vP g0 ?_
 cases io h
 exact vO pr
 intro ap h
 refine vL (vH (Al 2 [.k 0 (u + 1 : Nat)] I ⟨Bj K aj, J⟩ ?_))
 cases io h
 exact vI ⟨_, _, _, I, I2, J5, pk [0, 1]⟩
 rintro H s ob ⟨rfl, rfl⟩ he
 subst he
 have h := Dn G
 have aq := Dg a.Ports.length
 exact Aj I (Aa fun bg bh => Cm I aq (vQ (lg ⟨(), h, I2⟩ [0, 1])))
 rintro s ob ⟨F, h, rfl, rfl⟩
 unfold F2.J2 at h
 refine Ah (fun s ob => ∃ (M : Unit), F2.J3 b a M = some r ∧ s = [] ∧ ob = [O0 d [Ab b], O1 e [Ak a]]) (K2 2 3) J2 ?_ ?_
 refine Bl [.o 1 0, .l 2 (b.Nodes.length : Int)] I ⟨A8, I, J⟩ (vN (Cu 84 I fun ar => ?_))
 obtain ⟨bi, au, N⟩ := Ac h
 refine Cv au (K3 2 3 85) J3 (fun (y : Nat) (O : Unit) s ob => s = [(86, .V (y : Int))] ∧ ob = [O0 d [Ab b], O1 e [Ak a]]) ⟨I, I⟩ ⟨I, J⟩ (pk [0, 1]) ?_ ?_
 rintro y bj O bk s ob bl P ⟨rfl, rfl⟩ h av
 have aw := Df P
 refine Aj I (Aa fun bm ax => Cl I aw (vL ?_))
 subst ax
 refine vM (vN (Aj I (vM ?_)))
 obtain ⟨bn, ay, h⟩ := Ac h
 refine vH (Al 3 [.o 0 0, .o 1 1] I J2 (vU (Wb _ _ _ _ ay) (Af 5 I (vI (Aj I (Ao h I ?_ ?_))))))
 intro az h
 refine Aj I ?_
 obtain rfl := av _ (oi h).symm
 have h := N
 have h := Do h
 refine vP g0 ?_
 cases io h
 exact vO pr
 intro az h
 refine vL (vH (Al 2 [.k 0 (y + 1 : Nat)] I ⟨Bj P ar, J⟩ ?_))
 cases io h
 exact vI ⟨_, _, _, I, I2, J4, pk [0, 1]⟩
 rintro O s ob ⟨rfl, rfl⟩ he
 subst he
 have h := Dn N
 have a0 := Dg b.Nodes.length
 exact Aj I (Aa fun bo bp => Cm I a0 (vQ (lg ⟨(), h, I2⟩ [0, 1])))
 rintro s ob ⟨M, h, rfl, rfl⟩
 refine vM (vM ?_)
 obtain ⟨bq, a1, h⟩ := Ac h
 refine Bi (.still 0 (.still 1 (sl 3 4 (.act 2 (.act 3 (.still 7 .nil)))))) [0, 1] [_, _] I (Br 5 [.o 0 0, .o 1 1, .o 3 0, .l 4 (b.Nodes.length : Int)] I ⟨A8, I, I, I, J⟩ (vK [] I I I (Bp I I I (jJ _ _ _ a1) dS ?_)))
 rintro _ _ ⟨br, rfl, rfl⟩
 refine vK [] I I I (Ay (By 2 I I I I) dS (A9 1 I (An (vI (Ao h I ?_ ?_)))))
 intro a2 h
 refine Aj I (vP g0 ?_)
 cases io h
 exact vO pr
 intro a2 h
 refine vL (Aj I (vP g0 ?_))
 cases io h
 exact vO pr
theorem Px (a : Nw) (e : Plan) (b : Int) (r : Int × Int) (h : Ov a e b = some r) : ACalls Ai 84 [.agg (Ab a), .agg (Ak e), .V b] [] (RV (.tup [.V r.1, .V r.2])) := by
 refine Ag Tryz.func84 I I I fun C hC => ?_
 refine Aa fun s f => vH (vJ [] I (Bh (Ab a) 6 fun t => vJ [] I (Bh (Ak e) 3 fun u => Af 2 I (vI ?_))))
 subst f
 refine Aa fun v g => vM ?_
 obtain ⟨w, i, h⟩ := Ac h
 refine vH (Al 2 [.o 0 0, .o 1 1] I J2 (vU (Ii _ _ _ i) (Af 1 I (vI (Aj I (Ao h I ?_ ?_))))))
 intro j h
 refine Aj I (vP g0 ?_)
 cases io h
 exact vO ⟨.inr I, [_, _], [], J2, Cf, I2⟩
 intro j h
 refine vL ?_
 subst g
 refine Aa fun y k => D2 25 (decide (b < 0) || decide (b ≥ (a.Nodes.length : Int))) ?_ ?_
 refine vH (Af 3 I ?_)
 rcases bt (decide (b < 0)) with d | d
 exact Ad 19 I d (Af 6 I (vI (jf (by simp only [d, bz]) I I I2)))
 exact Ad 19 I d (Al 6 [.o 2 0, .l 3 (a.Nodes.length : Int)] I ⟨A8, I, J⟩ (vI (jf (by simp only [d, bz]) I I I2)))
 refine Ao h I ?_ ?_
 intro n h
 refine Aj I (vP g0 ?_)
 cases io h
 exact vO ⟨.inr I, [_, _], [], J2, Cf, I2⟩
 intro n h
 refine vL ?_
 subst k
 refine vM ?_
 obtain ⟨A, p, h⟩ := Ac h
 refine vH (Al 3 [.o 0 0, .o 1 1] I J2 (vU (Wb _ _ _ _ p) (Af 5 I (vI (Aj I (vP g0 ?_))))))
 cases io h
 exact vO ⟨.inr I, [_, _], [], J2, Cf, I2⟩
theorem Gw (a : Valve) (r : Bool) (h : Ey a = r) : ACalls Ai 106 [.agg (A5 a)] [] (RB r) := by
 refine Ag Tryz.func106 I I I fun C hC => ?_
 unfold Ey at h
 refine Aa fun f e => vH (vJ [] I (Bh (A5 a) 4 fun g => Af 1 I (vI ?_)))
 subst e
 refine Ah (fun s ob => s = [(2, .v (.bool (decide (a.Travel ≥ 1) && (decide (a.Travel ≤ 60) && (decide (a.Open ≥ 0) && decide (a.Open ≤ a.Travel))))))] ∧ ob = []) [] J ?_ ?_
 refine vH (Al 4 [.o 1 0] I J1 ?_)
 rcases bt (decide (a.Travel ≥ 1)) with b | b
 refine Ad 6 I b (Al 5 [.o 1 0] I J1 ?_)
 rcases bt (decide (a.Travel ≤ 60)) with c | c
 refine Ad 11 I c (Al 5 [.o 1 0] I J1 ?_)
 rcases bt (decide (a.Open ≥ 0)) with d | d
 refine Ad 16 I d (Al 7 [.o 1 0, .o 3 0] I J2 (vI ?_))
 exact lf I2 ⟨(D1 (by simp only [b, c, d, bz])), J⟩ [] I
 refine Ad 16 I d (Af 7 I (vI ?_))
 exact lf I2 ⟨(D1 (by simp only [b, c, d, bz])), J⟩ [] I
 refine Ad 11 I c (Af 12 I (vI ?_))
 exact lf I2 ⟨(D1 (by simp only [b, c, bz])), J⟩ [] I
 refine Ad 6 I b (Af 17 I (vI ?_))
 exact lf I2 ⟨(D1 (by simp only [b, bz])), J⟩ [] I
 rintro s ob ⟨rfl, rfl⟩
 obtain rfl := h
 exact vO pr
theorem Vl (a : Valve) (r : Bool) (h : Iq a = r) : ACalls Ai 100 [.agg (A5 a)] [] (RB r) := by
 refine Ag Tryz.func100 I I I fun C hC => ?_
 unfold Iq at h
 refine Aa fun e d => vH (vJ [] I (Bh (A5 a) 4 fun f => Af 1 I (vI ?_)))
 subst d
 refine Ah (fun s ob => s = [(2, .v (.bool ((Ey a) && (a.Open == a.Travel))))] ∧ ob = []) [] J ?_ ?_
 refine vH (Al 1 [.o 0 0] I J1 (vU (Gw a _ I) (Af 1 I ?_)))
 rcases bt ((Ey a)) with b | b
 refine Ad 5 I b (Al 7 [.o 1 0, .o 3 0] I J2 (vI ?_))
 exact lf I2 ⟨(D1 (by simp only [b, bz])), J⟩ [] I
 refine Ad 5 I b (Af 7 I (vI ?_))
 exact lf I2 ⟨(D1 (by simp only [b, bz])), J⟩ [] I
 rintro s ob ⟨rfl, rfl⟩
 obtain rfl := h
 exact vO pr
theorem hY (a : Valve) (r : Valve × Int) (h : G2 a = r) : ACalls Ai 107 [.agg (A5 a)] [] (RV (.tup [.agg (A5 r.1), .V r.2])) := by
 refine Ag Tryz.func107 I I I fun C hC => ?_
 refine Aa fun u f => vH (vJ [] I (Bh (A5 a) 4 fun g => vJ [] I (Bm W5 4 fun i => Af 1 I (vI ?_))))
 subst f
 refine Aa fun w j => vM (vH (Al 1 [.o 0 0] I J1 (vU (Gw a _ I) (Af 1 I (vI (Ao h I ?_ ?_))))))
 intro k h
 refine vM (vH (Al 1 [.o 0 0] I J1 (vJ [1] I (A3 1 0 0 [A5 a] I (Af 1 I (vI (Cd [1] I ?_)))))))
 obtain rfl := h
 exact vO ⟨.inr I, [_, _], [], ⟨⟨0, _, _, _, _, _, _, _, I5⟩, I, J⟩, Cf, I2⟩
 intro k h
 refine vL ?_
 subst j
 refine Aa fun y l => Bl [.o 1 0] I J1 (Ao h I ?_ ?_)
 intro n h
 refine vM (vH (Al 1 [.o 0 0] I J1 (vJ [1] I (A3 1 0 0 [A5 a] I (Af 1 I (vI (Cd [1] I ?_)))))))
 obtain rfl := h
 exact vO ⟨.inr I, [_, _], [], ⟨⟨0, _, _, _, _, _, _, _, I5⟩, I, J⟩, Cf, I2⟩
 intro n h
 refine vL ?_
 subst l
 refine Ah (fun s ob => ∃ (e : Int), G2.J1 a e = r ∧ s = [] ∧ ob = [Yi g [[.V a.Travel, .V e, .v (.bool a.Want), .v (.bool a.Stuck)]], Yi i [W5]]) (K2 1 2) J2 ?_ ?_
 refine D2 19 (a.Want && decide (a.Open < a.Travel)) ?_ ?_
 refine vH (Al 3 [.o 1 0] I J1 ?_)
 rcases bt (a.Want) with b | b
 exact Ad 13 I b (Al 6 [.o 1 0, .o 3 0] I J2 (vI (jf (by simp only [b, bz]) I I I2)))
 exact Ad 13 I b (Af 6 I (vI (jf (by simp only [b, bz]) I I I2)))
 refine Ao h I ?_ ?_
 intro p h
 exact vH (Al 4 [.o 1 0] I J1 (vJ [0] I (A3 0 0 1 [[.V a.Travel, .V (wr (a.Open + 1)), .v (.bool a.Want), .v (.bool a.Stuck)]] I (vI (lg ⟨wr (a.Open + 1), h, I2⟩ [0, 1])))))
 intro p h
 refine D2 31 ((!a.Want) && decide (a.Open > 0)) ?_ ?_
 refine vH (Al 4 [.o 1 0] I J1 ?_)
 rcases bt ((!a.Want)) with d | d
 exact Ad 27 I d (Al 4 [.o 1 0] I J1 (vI (jf (by simp only [d, bz]) I I I2)))
 exact Ad 27 I d (Af 4 I (vI (jf (by simp only [d, bz]) I I I2)))
 refine Ao h I ?_ ?_
 intro t h
 exact vH (Al 4 [.o 1 0] I J1 (vJ [0] I (A3 0 0 1 [[.V a.Travel, .V (wr (a.Open - 1)), .v (.bool a.Want), .v (.bool a.Stuck)]] I (vI (lg ⟨wr (a.Open - 1), h, I2⟩ [0, 1])))))
 intro t h
 exact vL (lg ⟨a.Open, h, I2⟩ [0, 1])
 rintro s ob ⟨e, h, rfl, rfl⟩
 unfold G2.J1 at h
 refine vM (vH (Al 1 [.o 0 0] I J1 (vJ [1] I (A3 1 0 0 [[.V a.Travel, .V e, .v (.bool a.Want), .v (.bool a.Stuck)]] I (Af 1 I (vI (Cd [1] I ?_)))))))
 obtain rfl := h
 exact vO ⟨.inr I, [_, _], [], ⟨⟨0, _, _, _, _, _, _, _, I5⟩, I, J⟩, Cf, I2⟩
theorem jB (d : Valve) (e : Int) (r : Valve × Int) (h : Jq d e = some r) : ACalls Ai 65 [.agg (A5 d), .V e] [] (RV (.tup [.agg (A5 r.1), .V r.2])) := by
 refine Ag Tryz.func65 I I I fun C hC => ?_
 refine Aa fun A j => vH (vJ [] I (Bh (A5 d) 4 fun g => vJ [] I (Bm W5 4 fun i => Af 1 I (vI ?_))))
 subst j
 refine Aa fun B k => vM (vH (Al 1 [.o 0 0] I J1 (vU (Gw d _ I) (Af 1 I (vI (Ao h I ?_ ?_))))))
 intro l h
 refine vM (vH (Al 1 [.o 0 0] I J1 (vJ [1] I (A3 1 0 0 [A5 d] I (Af 1 I (vI (Cd [1] I ?_)))))))
 cases io h
 exact vO ⟨.inr I, [_, _], [], ⟨⟨0, _, _, _, _, _, _, _, I5⟩, I, J⟩, Cf, I2⟩
 intro l h
 refine vL ?_
 subst k
 refine Aa fun D n => D2 16 (decide (e < 0) || decide (e > 400)) ?_ ?_
 refine vH (Af 3 I ?_)
 rcases bt (decide (e < 0)) with f | f
 exact Ad 13 I f (Af 3 I (vI (jf (by simp only [f, bz]) I I I2)))
 exact Ad 13 I f (Af 3 I (vI (jf (by simp only [f, bz]) I I I2)))
 refine Ao h I ?_ ?_
 intro p h
 refine vM (vH (Al 1 [.o 0 0] I J1 (vJ [1] I (A3 1 0 0 [A5 d] I (Af 1 I (vI (Cd [1] I ?_)))))))
 cases io h
 exact vO ⟨.inr I, [_, _], [], ⟨⟨0, _, _, _, _, _, _, _, I5⟩, I, J⟩, Cf, I2⟩
 intro p h
 refine vL ?_
 subst n
 refine Ah (fun s ob => ∃ (b : Int × Int × Bool × Bool), Jq.J1 b = some r ∧ s = [] ∧ ob = [Yi g [[.V b.1, .V b.2.1, .v (.bool b.2.2.1), .v (.bool b.2.2.2)]], Yi i [W5]]) (K2 2 4) J2 ?_ ?_
 refine Aj I (vN ?_)
 obtain ⟨E, t, u⟩ := Ac h
 refine Bo t (K3 1 2 4) J3 (fun (a : Int × Int × Bool × Bool × Int) s ob => s = [(6, .V a.2.2.2.2)] ∧ ob = [Yi g [[.V a.1, .V a.2.1, .v (.bool a.2.2.1), .v (.bool a.2.2.2.1)]], Yi i [W5]]) ⟨I, I⟩ ⟨I, J⟩ (pk [0, 1]) ?_
 rintro a F s ob ⟨rfl, rfl⟩ h w
 refine vM (Aj I (Ao h I ?_ ?_))
 intro y h
 refine vL (vM (vN (vH (Al 1 [.o 0 0] I J1 (vU (hY (⟨a.1, a.2.1, a.2.2.1, a.2.2.2.1⟩ : Valve) _ I) (Af 3 I (vJ [0] I (A3 0 0 0 [A5 ((G2 (⟨a.1, a.2.1, a.2.2.1, a.2.2.2.1⟩ : Valve)).1)] I (vI (vH (Af 3 I ?_)))))))))))
 cases io h
 exact vI ⟨_, _, _, I, I2, J4, pk [0, 1]⟩
 intro y h
 obtain rfl := w _ (oi h).symm
 have h := u
 exact vQ (lg ⟨(a.1, a.2.1, a.2.2.1, a.2.2.2.1), h, I2⟩ [0, 1])
 rintro s ob ⟨b, h, rfl, rfl⟩
 unfold Jq.J1 at h
 refine vM (vH (Al 1 [.o 0 0] I J1 (vJ [1] I (A3 1 0 0 [[.V b.1, .V b.2.1, .v (.bool b.2.2.1), .v (.bool b.2.2.2)]] I (Af 1 I (vI (Cd [1] I ?_)))))))
 cases io h
 exact vO ⟨.inr I, [_, _], [], ⟨⟨0, _, _, _, _, _, _, _, I5⟩, I, J⟩, Cf, I2⟩
theorem Pu (a : Lineup) (r : List Bool) (h : Lx a = some r) : ACalls Ai 44 [.agg (C7 a)] [] (fun x new => ∃ (b : Value), x = .v b ∧ new = [U1 b r]) := by
 refine Ag Tryz.func44 I I I fun C hC => ?_
 refine vM (vH (vJ [] I (Bh (C7 a) 2 fun g => Af 1 I (vI (vM ?_)))))
 obtain ⟨i, d, h⟩ := Ac h
 obtain ⟨e, f, h⟩ := Ac h
 refine Bi (.still 1 (.still 2 (.still 4 (.still 5 (.act 0 (.act 3 (.act 6 (.still 7 .nil)))))))) [0] [_] I (Br 4 [.o 1 0, .o 3 0] I J2 (vK [] I I I (vW (sz := 1) (es := ([] : List Bool).map rB) I I I I I I I I I I I dS fun j => vK [1] I I I (vV 1 I d fun k => vK [1] I I I (vV 1 I f fun c => dY 2 (A9 1 I (An (vI (Cd [1] I ?_)))))))))
 obtain rfl := oi h
 exact vO ⟨.inr I, [_], [U1 c e], J1, Cy I (Cf), ⟨c, I2⟩⟩
theorem Pp (b : Plan) (r : Lineup) (h : Ji b = some r) : ACalls Ai 45 [.agg (Ak b)] [] (RV (.agg (C7 r))) := by
 refine Ag Tryz.func45 I I I fun C hC => ?_
 unfold Ji at h
 refine Aa fun y1 A => vH (vJ [] I (Bh (Ak b) 3 fun p => vJ [] I (Bm [.N, .N] 2 fun e => vI ?_)))
 subst A
 refine Aa fun y4 B => vH (vJ [] I (Bm [.N, .N] 2 fun f => vI ?_))
 subst B
 refine Ah (fun s ob => ∃ (c : List Bool) (a : Value), Ji.J1 b c = some r ∧ s = [] ∧ ob = [O1 p [Ak b], O8 e [[.N, .N]], O8 f [[.v a, .N]], U1 a c]) (K3 1 2 3) J3 ?_ ?_
 refine Aj I (vN (vP (A7 4 1) ?_))
 obtain ⟨ae, D, E⟩ := Ac h
 refine Bo D (K3 1 2 3) J3 (fun (i : (List Bool) × Int) s ob => ∃ (j : Value), s = [(4, .V i.2)] ∧ ob = [O1 p [Ak b], O8 e [[.N, .N]], O8 f [[.v j, .N]], U1 j i.1]) ⟨nS, I2⟩ ⟨I, J⟩ (pk N4) ?_
 rintro i af s ob ⟨j, rfl, rfl⟩ h F
 refine Aa fun ag G => Bl [.o 2 0, .l 3 (b.Rates.length : Int)] I ⟨A8, I, J⟩ (Ao h I ?_ ?_)
 intro H h
 refine vL ?_
 subst G
 refine vM (vN ?_)
 obtain ⟨t, ⟨M, O⟩, h⟩ := Ba h
 obtain ⟨ah, P, h⟩ := Ac h
 refine Bi rJ [2, 0] [_, _] I (Br 8 [.o 1 0, .o 3 1, .x 5 t.1 (rI t.2)] I ⟨⟨M, Ae O⟩, I, I, J⟩ (vK [] I I I (vR 1 (([(t.2 != 0)] : List Bool).map rB) (vK [3] I I I (vV 3 I P fun w => A9 1 I (wA 3 I fun Q => vZ [2] I I I (vT 2 0 0 (es' := [[.v w, .N]]) I I I I I I (A6 Q) I (A4 I) I I (An (vI (vH (Af 3 I ?_)))))))))))
 cases io h
 exact vI ⟨_, _, _, I, ⟨w, I2⟩, J4, pk N4⟩
 intro H h
 obtain rfl := F _ (oi h).symm
 have h := E
 exact vQ (lg ⟨i.1, j, h, I2⟩ N4)
 rintro s ob ⟨c, a, h, rfl, rfl⟩
 unfold Ji.J1 at h
 refine Ah (fun s ob => ∃ (g : List Bool) (d : Value), Ji.J2 c g = some r ∧ s = [] ∧ ob = [O8 e [[.N, .N]], O8 f [[.v a, .v d]], U1 a c, U1 d g]) (K2 2 3) J2 ?_ ?_
 refine Aj I (vN (vP (A7 4 1) ?_))
 obtain ⟨ai, R, S⟩ := Ac h
 refine Bo R (K3 1 2 3) J3 (fun (k : (List Bool) × Int) s ob => ∃ (n : Value), s = [(5, .V k.2)] ∧ ob = [O1 p [Ak b], O8 e [[.N, .N]], O8 f [[.v a, .v n]], U1 a c, U1 n k.1]) ⟨nS, I2⟩ ⟨I, J⟩ (pk N5) ?_
 rintro k aj s ob ⟨n, rfl, rfl⟩ h U
 refine Aa fun ak W => Bl [.o 2 0, .l 3 (b.Ports.length : Int)] I ⟨A8, I, J⟩ (Ao h I ?_ ?_)
 intro X h
 refine vL ?_
 subst W
 refine vM (vN ?_)
 obtain ⟨u, ⟨Y, Z⟩, h⟩ := Ba h
 obtain ⟨al, aa, h⟩ := Ac h
 refine Bi rJ [2, 0] [_, _] I (Br 8 [.o 1 0, .o 3 1, .x 5 u.1 (rI u.2)] I ⟨⟨Y, Ae Z⟩, I, I, J⟩ (vK [] I I I (vR 1 (([(u.2 != 0)] : List Bool).map rB) (vK [4] I I I (vV 4 I aa fun y => A9 1 I (wA 4 I fun ab => vZ [2] I I I (vT 2 0 1 (es' := [[.v a, .v y]]) I I I I I I (A6 ab) I (A4 I) I I (An (vI (vH (Af 3 I ?_)))))))))))
 cases io h
 exact vI ⟨_, _, _, I, ⟨y, I2⟩, J4, pk N5⟩
 intro X h
 obtain rfl := U _ (oi h).symm
 have h := S
 exact vQ (lg ⟨k.1, n, h, I2⟩ [1, 2, 3, 4])
 rintro s ob ⟨g, d, h, rfl, rfl⟩
 unfold Ji.J2 at h
 refine vM (vH (Al 1 [.o 0 1] I J1 (vJ [0] I (A3 0 0 0 [[.v a, .v d]] I (vI (vP (Av [2, 3] (K := [U1 a c, U1 d g]) I [] J (ob' := [O8 e [[Q2 c, Q2 g]], O8 f [[.v a, .v d]]]) (.cons (.arr (.cons (.us 0 I) (.cons (.us 1 I) (.rest _)))) (.rest _))) (Cd [0] I ?_)))))))
 cases io h
 exact vO ⟨.inr I, [_], [], ⟨⟨0, _, _, _, _, _, _, _, I5⟩, J⟩, Cf, I2⟩
theorem Wl (a : Nw) (r : Int) (h : Si a = r) : ACalls Ai 82 [.agg (Ab a)] [] (RV (.V r)) := by
 refine Ag Tryz.func82 I I I fun C hC => ?_
 unfold Si at h
 refine vM (vH (vJ [] I (Bh (Ab a) 6 fun b => Af 1 I (vI (Bl [.o 1 0, .l 2 (a.Segments.length : Int), .o 4 0, .l 5 (a.Ports.length : Int)] I ⟨A8, I, A8, I, J⟩ (vP g0 ?_))))))
 obtain rfl := h
 exact vO pr
theorem jD (a : Nw) (b : List Valve) (r : Int) (h : Xq a b = some r) : ACalls Ai 99 [.agg (Ab a), Q8 b] [] (RV (.V r)) := by
 refine Ag Tryz.func99 I I I fun C hC => ?_
 refine Aa fun A j => vH (vJ [] I (Bh (Ab a) 6 fun B => Af 1 I (vI ?_)))
 subst j
 refine Aa fun D k => vM (vH (Al 3 [.l 1 (b.length : Int), .o 2 0] I ⟨I, A8, J⟩ (vU (Wl a _ I) (Af 1 I (vI (Ao h I ?_ ?_))))))
 intro n h
 refine Aj I (vP g0 ?_)
 cases io h
 exact vO pr
 intro n h
 refine vL ?_
 subst k
 refine Ah (fun s ob => ∃ (e : Unit), Xq.J1 e = some r ∧ s = [] ∧ ob = []) [] J ?_ ?_
 refine Aj I (vN ?_)
 obtain ⟨E, p, f⟩ := Ac h
 refine Bo p [(1, _)] J1 (fun (g : Int) s ob => s = [(5, .V g)] ∧ ob = []) ⟨I, I⟩ ⟨I, J⟩ (pk []) ?_
 rintro g F s ob ⟨rfl, rfl⟩ h i
 refine Aa fun G t => Bl [.l 2 (b.length : Int)] I ⟨A8, J⟩ (Ao h I ?_ ?_)
 intro u h
 refine vL ?_
 subst t
 refine vM (vN (vM ?_))
 obtain ⟨d, ⟨v, w⟩, h⟩ := Ba h
 refine vH (Al 4 [.x 2 d.1 (A5 d.2)] I ⟨⟨v, Ae w⟩, J⟩ (vU (Gw d.2 _ I) (Af 1 I (vI (Ao h I ?_ ?_)))))
 intro y h
 refine Aj I ?_
 obtain rfl := i _ (oi h).symm
 have h := f
 have h := Dn h
 cases io h
 exact vO pr
 intro y h
 refine vL (vH (Af 3 I ?_))
 cases io h
 exact vI ⟨_, _, _, I, I2, J2, pk []⟩
 intro u h
 obtain rfl := i _ (oi h).symm
 have h := f
 have h := Do h
 exact vQ (lg ⟨(), h, I2⟩ [])
 rintro s ob ⟨e, h, rfl, rfl⟩
 unfold Xq.J1 at h
 refine Aj I ?_
 cases io h
 exact vO pr
theorem Ps (a : Path) (r : Path) (h : Lr a = some r) : ACalls Ai 71 [.agg (Az a)] [] (RV (.agg (Az r))) := by
 refine Ag Tryz.func71 I I I fun C hC => ?_
 refine vM (vH (vJ [] I (Bh (Az a) 4 fun d => vJ [] I (Bm W2 4 fun e => vI (vM ?_)))))
 obtain ⟨c, f, h⟩ := Ac h
 refine vH (vJ [] I (vW (sz := 2) (es := ([] : List Hop).map Cb) I I I I I I I I I I I dS fun i => Al 2 [.o 1 0] I J1 (vJ [2] I (vV 2 I f fun b => Af 1 I (wC 2 I fun g => vJ [0] I (vT 0 0 2 (es' := [[.V a.In, .V a.Out, .v b, .V a.Rate]]) I I I I I I (A6 g) I (A4 I) I I (vI (vM (vH (Al 1 [.o 0 0] I J1 (vJ [1] I (A3 1 0 0 [[.V a.In, .V a.Out, .v b, .V a.Rate]] I (vI ?_)))))))))))))
 refine vP (Av [2] (K := [U6 b c]) I [] J (ob' := [O3 d [[.V a.In, .V a.Out, .v b, .V a.Rate]], O3 e [[.V a.In, .V a.Out, Q7 c, .V a.Rate]]]) (.cons (.same _) (.cons (.arr (.cons (.refl _) (.cons (.refl _) (.cons (.us 0 I) (.rest _))))) (.rest _)))) (Cd [1] I ?_)
 cases io h
 exact vO ⟨.inr I, [_], [], ⟨⟨0, _, _, _, _, _, _, _, I5⟩, J⟩, Cf, I2⟩
theorem Vu (a : Nw) (b : Hop) (r : Int × Int) (h : Rk a b = some r) : ACalls Ai 110 [.agg (Ab a), .agg (Cb b)] [] (RV (.tup [.V r.1, .V r.2])) := by
 refine Ag Tryz.func110 I I I fun C hC => ?_
 refine Aa fun j d => vH (vJ [] I (Bh (Ab a) 6 fun k => vJ [] I (Bh (Cb b) 2 fun l => Af 2 I (vI ?_))))
 subst d
 refine Aa fun n e => ?_
 obtain ⟨c, ⟨f, g⟩, h⟩ := Ba h
 refine vH (Al 6 [.o 1 0, .o 3 1, .x 4 c.1 (Ap c.2)] I ⟨⟨f, Ae g⟩, I, I, J⟩ (vJ [] I (Bm W4 7 fun p => vJ [2] I (A3 2 0 0 [Ap c.2] I (vI ?_)))))
 subst e
 refine vM (Bl [.o 1 1] I J1 (Ao h I ?_ ?_))
 intro i h
 refine Qw (pd 6 0 []) [2] [_] [.o 1 0, .o 3 0] I I J2 (vP g0 ?_)
 cases io h
 exact vO ⟨.inr I, [_, _], [], J2, Cf, I2⟩
 intro i h
 refine vL (Qw (pd 6 0 []) [2] [_] [.o 1 0, .o 3 0] I I J2 (vP g0 ?_))
 cases io h
 exact vO ⟨.inr I, [_, _], [], J2, Cf, I2⟩
theorem fS (b : Nw) (a : Path) (r : Bool) (h : Ns b a = some r) : ACalls Ai 70 [.agg (Ab b), .agg (Az a)] [] (RB r) := by
 refine Ag Tryz.func70 I I I fun C hC => ?_
 unfold Ns at h
 refine Aa fun y1 ab => vH (vJ [] I (Bh (Ab b) 6 fun p => vJ [] I (Bh (Az a) 4 fun t => Af 1 I (vI ?_))))
 subst ab
 refine Aa fun y4 ac => D2 57 (decide (a.In < 0) || (decide (a.In ≥ (b.Ports.length : Int)) || (decide (a.Out < 0) || (decide (a.Out ≥ (b.Ports.length : Int)) || ((a.In == a.Out) || (decide (a.Rate < 1) || (decide (a.Rate > 1000) || decide ((a.Hops.length : Int) > 32)))))))) ?_ ?_
 refine vH (Al 4 [.o 1 1] I J1 ?_)
 rcases bt (decide (a.In < 0)) with e | e
 exact Ad 14 I e (Af 43 I (vI (jf (by simp only [e, bz]) I I I2)))
 refine Ad 14 I e (Al 8 [.o 1 1, .o 3 0, .l 4 (b.Ports.length : Int)] I ⟨A8, I, I, J⟩ ?_)
 rcases bt (decide (a.In ≥ (b.Ports.length : Int))) with g | g
 exact Ad 22 I g (Af 35 I (vI (jf (by simp only [e, g, bz]) I I I2)))
 refine Ad 22 I g (Al 5 [.o 1 1] I J1 ?_)
 rcases bt (decide (a.Out < 0)) with i | i
 exact Ad 27 I i (Af 30 I (vI (jf (by simp only [e, g, i, bz]) I I I2)))
 refine Ad 27 I i (Al 8 [.o 1 1, .o 3 0, .l 4 (b.Ports.length : Int)] I ⟨A8, I, I, J⟩ ?_)
 rcases bt (decide (a.Out ≥ (b.Ports.length : Int))) with j | j
 exact Ad 35 I j (Af 22 I (vI (jf (by simp only [e, g, i, j, bz]) I I I2)))
 refine Ad 35 I j (Al 7 [.o 1 1, .o 3 1] I J2 ?_)
 rcases bt ((a.In == a.Out)) with n | n
 exact Ad 42 I n (Af 15 I (vI (jf (by simp only [e, g, i, j, n, bz]) I I I2)))
 refine Ad 42 I n (Al 5 [.o 1 1] I J1 ?_)
 rcases bt (decide (a.Rate < 1)) with u | u
 exact Ad 47 I u (Af 10 I (vI (jf (by simp only [e, g, i, j, n, u, bz]) I I I2)))
 refine Ad 47 I u (Al 5 [.o 1 1] I J1 ?_)
 rcases bt (decide (a.Rate > 1000)) with A | A
 exact Ad 52 I A (Af 5 I (vI (jf (by simp only [e, g, i, j, n, u, A, bz]) I I I2)))
 exact Ad 52 I A (Al 5 [.o 1 1, .l 2 (a.Hops.length : Int)] I ⟨A8, I, J⟩ (vI (jf (by simp only [e, g, i, j, n, u, A, bz]) I I I2)))
 refine Ao h I ?_ ?_
 intro ad h
 refine Aj I (vP g0 ?_)
 cases io h
 exact vO pr
 intro ad h
 refine vL ?_
 subst ac
 refine Aa fun a9 ae => ?_
 obtain ⟨H, ⟨af, ag⟩, h⟩ := Ba h
 refine Hm [.o 1 0, .o 3 1, .x 4 H.1 (Cc H.2)] I ⟨⟨af, Ae ag⟩, I, I, J⟩ ?_
 subst ae
 refine Aa fun ba ah => vH (Af 1 I (vJ [] I (vW (sz := 1) (es := ([H.2.Node] : Li).map rI) I I I I I I I I I I I dS fun ai => Af 1 I (vI ?_))))
 subst ah
 refine Ah (fun s ob => ∃ (K : Int), Ns.J1 b a K = some r ∧ s = [(5, .V K)] ∧ ob = [O0 p [Ab b], O3 t [Az a]]) (K2 2 3) J2 ?_ ?_
 refine Aj I (vN ?_)
 obtain ⟨bb, aj, D⟩ := Ac h
 refine Bo aj (K2 2 3) J2 (fun (f : Int × Li × Int) s ob => ∃ (w : Value), s = [(5, .V f.1), (6, .v w), (7, .V f.2.2)] ∧ ob = [O0 p [Ab b], O3 t [Az a], U0 w f.2.1]) ⟨ai, I2⟩ ⟨I, I, I, J⟩ (pk N3) ?_
 rintro f M s ob ⟨w, rfl, rfl⟩ h E
 refine Aa fun bc ak => Bl [.o 2 1, .l 3 (a.Hops.length : Int)] I ⟨A8, I, J⟩ (Ao h I ?_ ?_)
 intro al h
 refine vL ?_
 subst ak
 refine Ah (fun s ob => ∃ (F : Int × Li) (G : Value), Ns.J3 f F = some M ∧ s = [(5, .V F.1), (6, .v G)] ∧ ob = [O0 p [Ab b], O3 t [Az a], U0 G F.2]) (K3 2 3 7) J3 ?_ ?_
 refine vN (Aa fun bd am => Ah (fun s ob => ∃ (N : Bool), Ns.J4 b a f N = some M ∧ s = [(92, .v (.bool N))] ∧ ob = [O0 p [Ab b], O3 t [Az a], U0 w f.2.1]) (K5 2 3 5 6 7) J5 ?_ ?_)
 obtain ⟨k, ⟨O, P⟩, h⟩ := Ba h
 rcases bt (decide (k.2.Segment < 0)) with B | B
 have h := B0 B h
 exact Bi (pd 19 0 []) [1] [_] I (Br 8 [.o 1 0, .x 3 k.1 (Cb k.2)] I ⟨⟨O, Ae P⟩, I, J⟩ (Bk 81 I B (A9 11 I (An (vI (lg ⟨true, h, I2⟩ N3))))))
 have h := B8 B h
 exact Bi (pd 19 0 []) [1, 0] [_, _] I (Br 8 [.o 1 0, .x 3 k.1 (Cb k.2)] I ⟨⟨O, Ae P⟩, I, J⟩ (Bk 81 I B (Br 11 [.o 1 0, .x 3 k.1 (Cb k.2), .o 7 1, .l 8 (b.Segments.length : Int)] I ⟨A8, I, ⟨O, Ae P⟩, I, J⟩ (An (vI (lg ⟨decide (k.2.Segment ≥ (b.Segments.length : Int)), h, I2⟩ N3))))))
 rintro s ob ⟨N, h, rfl, rfl⟩
 refine Ao h I ?_ ?_
 intro an h
 refine Aj I ?_
 obtain rfl := E _ (oi h).symm
 have h := D
 have h := Dn h
 refine vP g0 ?_
 cases io h
 exact vO pr
 intro an h
 refine vL ?_
 subst am
 refine Aa fun be ao => ?_
 obtain ⟨S, ⟨aq, ar⟩, h⟩ := Ba h
 obtain ⟨Q, au, h⟩ := Ac h
 refine Bi (pd 12 0 [6]) [0, 1] [_, _] I (Br 6 [.o 0 0, .o 2 1, .x 4 S.1 (Cb S.2)] I ⟨⟨aq, Ae ar⟩, I, I, J⟩ (wE I (Vu _ _ _ au) (A9 5 I (An (vI ?_)))))
 subst ao
 refine Aa fun bf av => Aj I (Ao h I ?_ ?_)
 intro aw h
 refine Aj I ?_
 obtain rfl := E _ (oi h).symm
 have h := D
 have h := Dn h
 refine vP g0 ?_
 cases io h
 exact vO pr
 intro aw h
 refine vL ?_
 subst av
 refine Ah (fun s ob => ∃ (U : Unit), Ns.J5 f Q U = some M ∧ s = [] ∧ ob = [O0 p [Ab b], O3 t [Az a], U0 w f.2.1]) (K5 2 3 6 7 9) J5 ?_ ?_
 refine Aj I (vN ?_)
 obtain ⟨bg, ax, W⟩ := Ac h
 refine Bo ax (K5 2 3 6 7 9) J5 (fun (X : Int) s ob => s = [(10, .V X)] ∧ ob = [O0 p [Ab b], O3 t [Az a], U0 w f.2.1]) ⟨I, I⟩ ⟨I, J⟩ (pk N3) ?_
 rintro X bh s ob ⟨rfl, rfl⟩ h Y
 refine Aa fun bi ay => vM (vH (Af 2 I (vS (By 2 I I I I) I (Af 1 I (vI (Ao h I ?_ ?_))))))
 intro az h
 refine vL ?_
 subst ay
 refine vM (vN (vM ?_))
 obtain ⟨R, ⟨a0, Z⟩, h⟩ := Ba h
 refine vH (Af 2 I (vS (Bb 2 (m := R.1) I I I I I I I a0 (Ae Z)) I (vS (Au 2 R.1 0 I I I (Ae Z) I (y := .V R.2) I) I (Af 2 I (vI (Ao h I ?_ ?_))))))
 intro a1 h
 refine Aj I ?_
 obtain rfl := Y _ (oi h).symm
 have h := W
 have h := Dn h
 obtain rfl := E _ (oi h).symm
 have h := D
 have h := Dn h
 refine vP g0 ?_
 cases io h
 exact vO pr
 intro a1 h
 refine vL (vH (Af 3 I ?_))
 cases io h
 exact vI ⟨_, _, _, I, I2, J6, pk N3⟩
 intro az h
 obtain rfl := Y _ (oi h).symm
 have h := W
 have h := Do h
 exact vQ (lg ⟨(), h, I2⟩ N3)
 rintro s ob ⟨U, h, rfl, rfl⟩
 refine Aj I ?_
 obtain ⟨a2, a3, h⟩ := Ac h
 exact vH (Af 2 I (vJ [] I (vR 1 (([Q.2] : Li).map rI) (vJ [2] I (vV 2 I a3 fun a4 => Af 1 I (vI (lg ⟨(Q.2, a2), a4, h, I2⟩ N3)))))))
 rintro s ob ⟨F, G, h, rfl, rfl⟩
 unfold Ns.J3 at h
 refine vH (Af 3 I ?_)
 cases io h
 exact vI ⟨_, _, _, I, ⟨G, I2⟩, J5, pk N3⟩
 intro al h
 obtain rfl := E _ (oi h).symm
 have h := D
 have h := Do h
 exact vQ (lg ⟨f.1, h, I2⟩ [0, 1])
 rintro s ob ⟨K, h, rfl, rfl⟩
 refine vM ?_
 obtain ⟨aa, ⟨a5, a6⟩, h⟩ := Ba h
 refine Hm [.o 2 0, .o 4 1, .x 5 aa.1 (Cc aa.2)] I ⟨⟨a5, Ae a6⟩, I, I, J⟩ (vP g0 ?_)
 cases io h
 exact vO pr
end Go.Proofs.YtmaamhgjeampmaaGreat
