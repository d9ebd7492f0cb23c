/- Walks that show what functions of the program compute; printed by a program of ours. No condition. -/
import Derived.Test.YtihdchjpepkpbaaGreatZiL0
import Derived.Test.YtihdchjpepkpbaaGreatZiD
set_option maxRecDepth 100000
namespace Go.Proofs.YtihdchjpepkpbaaGreat
open Go.Aw
set_option linter.unusedVariables false
set_option linter.unusedSimpArgs false
set_option maxHeartbeats 4000000
abbrev fU : PL := .act 7 (.still 8 (.act 11 (sl 3 12 (.act 15 (.act 16 (.still 17 (.drop 18 .nil)))))))
theorem Co (a : Int) (c : Int) (d : Int) (r : Bool) (h : B8 a c d = r) : ACalls Ah 145 [.V a, .V c, .V d] [] (RB r) := by
 refine Ae Tryz.func145 I I I fun C hC => ?_
 unfold B8 at h
 refine Aj I (Ai (fun s ob => s = [(6, .v (.bool (decide (a ≥ c) && decide (a ≤ d))))] ∧ ob = []) [] J ?_ ?_)
 refine jG (Af 4 I ?_)
 rcases bt (decide (a ≥ c)) with b | b
 refine Ad 10 I b (Af 5 I (jH ?_))
 exact lf I2 ⟨(Em (by simp only [b, bz])), J⟩ [] I
 refine Ad 10 I b (Af 5 I (jH ?_))
 exact lf I2 ⟨(Em (by simp only [b, bz])), J⟩ [] I
 rintro s ob ⟨rfl, rfl⟩
 obtain rfl := h
 exact jN pr
theorem Y9 (a : Nw) (r : Arr (List Bt) 4) (h : Ni a = some r) : ACalls Ah 146 [.agg (Aa a)] [] (RV (.agg (r.l.map (cL 1 rS)))) := by
 refine Ae Tryz.func146 I I I fun C hC => ?_
 unfold Ni at h
 refine Ab fun y1 U => jG (jI [] I (Br (Aa a) 6 fun u => jI [] I (Bf W2 4 fun f => jH ?_)))
 subst U
 refine Ab fun y4 W => jG (jI [] I (Bf W2 4 fun g => jH ?_))
 subst W
 refine Ab fun y6 X => jG (Ao 2 [.o 1 0] I J1 (Bv (C6 (m := 0) I I I I I I (A6 I)) I (jI [2] I (A1 2 0 0 [[Q1 a.Nodes, .N, .N, .N]] I (jH ?_)))))
 subst X
 refine Ai (fun s ob => ∃ (c : List Bt) (b : Value), Ni.J1 a c = some r ∧ s = [] ∧ ob = [O1 u [Aa a], O3 f [W2], O3 g [[Q1 a.Nodes, .v b, .N, .N]], U2 b c]) (K3 1 2 3) J3 ?_ ?_
 refine Bd [.o 1 0, .l 2 (a.Segments.length : Int)] I ⟨As, I, J⟩ (jM (Ca 14 I fun Y => jO (Au 9 1) ?_))
 obtain ⟨a5, Z, aa⟩ := Ac h
 refine C1 Z (K5 1 2 3 14 15) J5 (fun (w : Nat) (y : List Bt) s ob => ∃ (j : Value), s = [(16, .V (w : Int))] ∧ ob = [O1 u [Aa a], O3 f [W2], O3 g [[Q1 a.Nodes, .v j, .N, .N]], U2 j y]) ⟨nS, I2⟩ ⟨I, J⟩ (pk N4) ?_ ?_
 rintro w F y a6 s ob ab M ⟨j, rfl, rfl⟩ h
 have ac := Cy M
 refine Aj I (Ab fun a7 ad => Bs I ac (jL ?_))
 subst ad
 refine jK (jM (jK (jG (Ao 2 [.x 0 w (Am F)] I ⟨⟨I, Ag ab⟩, J⟩ (jI [] I (Bf W1 7 fun a8 => jI [4] I (A1 4 0 0 [Am F] I (jH ?_))))))))
 obtain ⟨a9, ae, h⟩ := Ac h
 refine jG (Bv (C6 (m := 1) I I I I I I (A6 I)) I (Ao 3 [.o 0 2, .o 2 4] I J2 (jI [] I (jQ 1 (([F.Name] : List Bt).map rS) (jI [3] I (jV 3 I ae fun O => Bv (C6 (m := 1) I I I I I I (A6 I)) I (AO.one 3 I fun af => jI [2] I (jS 2 0 1 (es' := [[Q1 a.Nodes, .v O, .N, .N]]) I I I I I I (A8 af) I (A6 I) I I (jH (jG (Ao 2 [.k 0 (w + 1 : Nat)] I ⟨Ay M Y, J⟩ ?_)))))))))))
 cases io h
 exact jH (lg ⟨O, I2⟩ N4)
 rintro y s ob ⟨j, rfl, rfl⟩ he
 subst he
 have h := aa
 have ag := Cz a.Segments.length
 exact Aj I (Ab fun ba bb => Bu I ag (jP (lg ⟨y, j, h, I2⟩ N4)))
 rintro s ob ⟨c, b, h, rfl, rfl⟩
 unfold Ni.J1 at h
 refine Ai (fun s ob => ∃ (e : List Bt) (d : Value), Ni.J2 a c e = some r ∧ s = [] ∧ ob = [O1 u [Aa a], O3 f [W2], O3 g [[Q1 a.Nodes, .v b, .v d, .N]], U2 b c, U2 d e]) (K3 1 2 3) J3 ?_ ?_
 refine Bd [.o 1 0, .l 2 (a.Ports.length : Int)] I ⟨As, I, J⟩ (jM (Ca 29 I fun ah => jO (Au 9 1) ?_))
 obtain ⟨bc, ai, aj⟩ := Ac h
 refine C1 ai (K5 1 2 3 29 30) J5 (fun (A : Nat) (B : List Bt) s ob => ∃ (n : Value), s = [(31, .V (A : Int))] ∧ ob = [O1 u [Aa a], O3 f [W2], O3 g [[Q1 a.Nodes, .v b, .v n, .N]], U2 b c, U2 n B]) ⟨nS, I2⟩ ⟨I, J⟩ (pk N5) ?_ ?_
 rintro A G B bd s ob ak P ⟨n, rfl, rfl⟩ h
 have al := Cy P
 refine Aj I (Ab fun be am => Bs I al (jL ?_))
 subst am
 refine jK (jM (jK (jG (Ao 2 [.x 0 A (Bb G)] I ⟨⟨I, Ag ak⟩, J⟩ (jI [] I (Bf W5 3 fun bf => jI [5] I (A1 5 0 0 [Bb G] I (jH ?_))))))))
 obtain ⟨bg, an, h⟩ := Ac h
 refine jG (Bv (C6 (m := 2) I I I I I I (A6 I)) I (Ao 3 [.o 0 2, .o 2 5] I J2 (jI [] I (jQ 1 (([G.Name] : List Bt).map rS) (jI [4] I (jV 4 I an fun Q => Bv (C6 (m := 2) I I I I I I (A6 I)) I (AO.one 4 I fun ao => jI [2] I (jS 2 0 2 (es' := [[Q1 a.Nodes, .v b, .v Q, .N]]) I I I I I I (A8 ao) I (A6 I) I I (jH (jG (Ao 2 [.k 0 (A + 1 : Nat)] I ⟨Ay P ah, J⟩ ?_)))))))))))
 cases io h
 exact jH (lg ⟨Q, I2⟩ N5)
 rintro B s ob ⟨n, rfl, rfl⟩ he
 subst he
 have h := aj
 have aq := Cz a.Ports.length
 exact Aj I (Ab fun bh bi => Bu I aq (jP (lg ⟨B, n, h, I2⟩ N5)))
 rintro s ob ⟨e, d, h, rfl, rfl⟩
 unfold Ni.J2 at h
 refine Ai (fun s ob => ∃ (q : List Bt) (i : Value), Ni.J3 a c e q = some r ∧ s = [] ∧ ob = [O3 f [W2], O3 g [[Q1 a.Nodes, .v b, .v d, .v i]], U2 b c, U2 d e, U2 i q]) (K2 2 3) J2 ?_ ?_
 refine Bd [.o 1 0, .l 2 (a.Stations.length : Int)] I ⟨As, I, J⟩ (jM (Ca 44 I fun ar => jO (Au 9 1) ?_))
 obtain ⟨bj, au, av⟩ := Ac h
 refine C1 au (K4 2 3 44 45) J4 (fun (D : Nat) (E : List Bt) s ob => ∃ (t : Value), s = [(46, .V (D : Int))] ∧ ob = [O3 f [W2], O3 g [[Q1 a.Nodes, .v b, .v d, .v t]], U2 b c, U2 d e, U2 t E]) ⟨nS, I2⟩ ⟨I, J⟩ (pk [1, 2, 3, 4, 5]) ?_ ?_
 rintro D H E bk s ob aw R ⟨t, rfl, rfl⟩ h
 have ax := Cy R
 refine Aj I (Ab fun bl ay => Bs I ax (jL ?_))
 subst ay
 refine jK (jM (jK (jG (Ao 2 [.x 0 D (A5 H)] I ⟨⟨I, Ag aw⟩, J⟩ (jI [] I (Bf W6 5 fun bm => jI [5] I (A1 5 0 0 [A5 H] I (jH ?_))))))))
 obtain ⟨bn, az, h⟩ := Ac h
 refine jG (Bv (C6 (m := 3) I I I I I I (A6 I)) I (Ao 3 [.o 0 1, .o 2 5] I J2 (jI [] I (jQ 1 (([H.Name] : List Bt).map rS) (jI [4] I (jV 4 I az fun S => Bv (C6 (m := 3) I I I I I I (A6 I)) I (AO.one 4 I fun a0 => jI [1] I (jS 1 0 3 (es' := [[Q1 a.Nodes, .v b, .v d, .v S]]) I I I I I I (A8 a0) I (A6 I) I I (jH (jG (Ao 2 [.k 0 (D + 1 : Nat)] I ⟨Ay R ar, J⟩ ?_)))))))))))
 cases io h
 exact jH (lg ⟨S, I2⟩ N5)
 rintro E s ob ⟨t, rfl, rfl⟩ he
 subst he
 have h := av
 have a1 := Cz a.Stations.length
 exact Aj I (Ab fun bo bp => Bu I a1 (jP (lg ⟨E, t, h, I2⟩ N5)))
 rintro s ob ⟨q, i, h, rfl, rfl⟩
 unfold Ni.J3 at h
 refine jK (jG (Ao 1 [.o 0 1] I J1 (jI [0] I (A1 0 0 0 [[Q1 a.Nodes, .v b, .v d, .v i]] I (jH (jO (Ba [2, 3, 4] (K := [U2 b c, U2 d e, U2 i q]) I [] J (ob' := [O3 f [[Q1 a.Nodes, Q1 c, Q1 e, Q1 q]], O3 g [[Q1 a.Nodes, .v b, .v d, .v i]]]) (.cons (.arr (.cons (.refl _) (.cons (.us 0 I) (.cons (.us 1 I) (.cons (.us 2 I) (.rest _)))))) (.rest _))) (C9 [0] I ?_)))))))
 cases io h
 exact jN ⟨.inr I, [_], [], ⟨⟨0, _, _, _, _, _, _, _, I5⟩, J⟩, Ct, I2⟩
theorem Y8 (g : Bt) (r : Bool) (h : Nh g = some r) : ACalls Ah 147 [.v (.string g)] [] (RB r) := by
 refine Ae Tryz.func147 I I I fun C hC => ?_
 unfold Nh at h
 refine Aj I (Ab fun X M => Ai (fun s ob => ∃ (y : Bool), Nh.J1 g y = some r ∧ s = [(21, .v (.bool y))] ∧ ob = []) [(0, _)] J1 ?_ ?_)
 refine jG (Af 4 I ?_)
 rcases bt (decide ((g.size : Int) < 1)) with i | i
 have h := Bp i h
 exact Ad 7 I i (Af 14 I (jH (lg ⟨true, h, I2⟩ [])))
 have h := Bq i h
 refine Ad 7 I i ?_
 rcases bt (decide ((g.size : Int) > 12)) with j | j
 have h := Bp j h
 exact Af 5 I (Ad 12 I j (Af 9 I (jH (lg ⟨true, h, I2⟩ []))))
 have h := Bq j h
 obtain ⟨f, N, h⟩ := Ac h
 obtain ⟨D, E, F⟩ := Jo N
 refine Af 5 I (Ad 12 I j (Af 1 I (A3 I I I (Bv (Ch (m := f.1) I I I I D E F) I (A3 I I I (Bv (kB (c := decide (f.2 < 97)) I I I) I (Af 2 I ?_)))))))
 rcases bt (decide (f.2 < 97)) with k | k
 have h := Bp k h
 exact Ad 17 I k (Af 4 I (jH (lg ⟨true, h, I2⟩ [])))
 have h := Bq k h
 exact Ad 17 I k (Af 1 I (A3 I I I (Bv (Ch (m := f.1) I I I I D E F) I (A3 I I I (Bv (kB (c := decide (f.2 > 122)) I I I) I (Af 1 I (jH (lg ⟨decide (f.2 > 122), h, I2⟩ []))))))))
 rintro s ob ⟨y, h, rfl, rfl⟩
 refine Ar h I ?_ ?_
 intro O h
 refine Aj I ?_
 cases io h
 exact jN pr
 intro O h
 refine jL ?_
 subst M
 refine Ai (fun s ob => ∃ (G : Unit), Nh.J2 G = some r ∧ s = [] ∧ ob = []) [] J ?_ ?_
 refine Aj I (jM ?_)
 obtain ⟨Y, P, H⟩ := Ac h
 refine Cg P [(0, _)] J1 (fun (A : Int) s ob => s = [(3, .V A)] ∧ ob = []) ⟨I, I⟩ ⟨I, J⟩ (pk []) ?_
 rintro A Q s ob ⟨rfl, rfl⟩ h K
 refine Ab fun Z R => Aj I (Ar h I ?_ ?_)
 intro S h
 refine jL ?_
 subst R
 refine jK (jM (Ai (fun s ob => ∃ (B : Bool), Nh.J4 A B = some Q ∧ s = [(55, .v (.bool B))] ∧ ob = []) (K2 0 3) J2 ?_ ?_))
 obtain ⟨a, U, h⟩ := Ac h
 obtain ⟨b, d, e⟩ := Jo U
 refine jG (Af 2 I (Bv (Ch (m := a.1) I I I I b d e) I (Bv (kB (c := decide (a.2 < 97)) I I I) I (Af 1 I ?_))))
 rcases bt (decide (a.2 < 97)) with l | l
 have h := Bp l h
 refine Ad 32 I l (Af 8 I (A3 I I I (Bv (Ch (m := a.1) I I I I b d e) I (A3 I I I (Bv (kB (c := decide (a.2 < 48)) I I I) I (Af 1 I ?_))))))
 rcases bt (decide (a.2 < 48)) with n | n
 have h := Bp n h
 exact Ad 43 I n (Af 9 I (A3 I I I (Bv (Ch (m := a.1) I I I I b d e) I (A3 I I I (Bv (kB (c := (a.2 != 45)) I I I) I (Af 1 I (jH (lg ⟨(a.2 != 45), h, I2⟩ []))))))))
 have h := Bq n h
 refine Ad 43 I n (Af 2 I (A3 I I I (Bv (Ch (m := a.1) I I I I b d e) I (A3 I I I (Bv (kB (c := decide (a.2 > 57)) I I I) I (Af 3 I ?_))))))
 rcases bt (decide (a.2 > 57)) with o | o
 have h := Bp o h
 exact Ad 50 I o (Af 2 I (A3 I I I (Bv (Ch (m := a.1) I I I I b d e) I (A3 I I I (Bv (kB (c := (a.2 != 45)) I I I) I (Af 1 I (jH (lg ⟨(a.2 != 45), h, I2⟩ []))))))))
 have h := Bq o h
 exact Ad 50 I o (Af 5 I (jH (lg ⟨false, h, I2⟩ [])))
 have h := Bq l h
 refine Ad 32 I l (Af 2 I (A3 I I I (Bv (Ch (m := a.1) I I I I b d e) I (A3 I I I (Bv (kB (c := decide (a.2 > 122)) I I I) I (Af 2 I ?_))))))
 rcases bt (decide (a.2 > 122)) with t | t
 have h := Bp t h
 refine Ad 38 I t (Af 2 I (A3 I I I (Bv (Ch (m := a.1) I I I I b d e) I (A3 I I I (Bv (kB (c := decide (a.2 < 48)) I I I) I (Af 1 I ?_))))))
 rcases bt (decide (a.2 < 48)) with u | u
 have h := Bp u h
 exact Ad 43 I u (Af 9 I (A3 I I I (Bv (Ch (m := a.1) I I I I b d e) I (A3 I I I (Bv (kB (c := (a.2 != 45)) I I I) I (Af 1 I (jH (lg ⟨(a.2 != 45), h, I2⟩ []))))))))
 have h := Bq u h
 refine Ad 43 I u (Af 2 I (A3 I I I (Bv (Ch (m := a.1) I I I I b d e) I (A3 I I I (Bv (kB (c := decide (a.2 > 57)) I I I) I (Af 3 I ?_))))))
 rcases bt (decide (a.2 > 57)) with w | w
 have h := Bp w h
 exact Ad 50 I w (Af 2 I (A3 I I I (Bv (Ch (m := a.1) I I I I b d e) I (A3 I I I (Bv (kB (c := (a.2 != 45)) I I I) I (Af 1 I (jH (lg ⟨(a.2 != 45), h, I2⟩ []))))))))
 have h := Bq w h
 exact Ad 50 I w (Af 5 I (jH (lg ⟨false, h, I2⟩ [])))
 have h := Bq t h
 exact Ad 38 I t (Af 5 I (E6 I I dS (E6 I I dS (E6 I I dS (E6 I I dS (Af 8 I (jH (lg ⟨false, h, I2⟩ []))))))))
 rintro s ob ⟨B, h, rfl, rfl⟩
 refine Ar h I ?_ ?_
 intro W h
 refine Aj I ?_
 obtain rfl := K _ (oi h).symm
 have h := H
 have h := De h
 cases io h
 exact jN pr
 intro W h
 refine jL (jG (Af 3 I ?_))
 cases io h
 exact jH ⟨_, _, _, I, I2, J2, pk []⟩
 intro S h
 obtain rfl := K _ (oi h).symm
 have h := H
 have h := Db h
 exact jP (lg ⟨(), h, I2⟩ [])
 rintro s ob ⟨G, h, rfl, rfl⟩
 unfold Nh.J2 at h
 refine Aj I ?_
 cases io h
 exact jN pr
theorem Zy (a : List Bt) (r : Bool) (h : Nt a = some r) : ACalls Ah 148 [Q1 a] [] (RB r) := by
 refine Ae Tryz.func148 I I I fun C hC => ?_
 unfold Nt at h
 refine Aj I (Ai (fun s ob => ∃ (e : Unit), Nt.J1 e = some r ∧ s = [] ∧ ob = []) [] J ?_ ?_)
 refine Bd [.l 1 (a.length : Int)] I ⟨As, J⟩ (jM (Ca 5 I fun t => ?_))
 obtain ⟨O, u, f⟩ := Ac h
 refine Bw u (K2 0 6) J2 (fun (b : Nat) (g : Unit) s ob => s = [(7, .V (b : Int))] ∧ ob = []) ⟨I, I⟩ ⟨I, J⟩ (pk []) ?_ ?_
 rintro b i g w s ob y j ⟨rfl, rfl⟩ h A
 unfold Nt.B2 at h
 have B := Cy j
 refine Aj I (Ab fun P D => Bs I B (jL ?_))
 subst D
 refine Ai (fun s ob => ∃ (m : Unit), Nt.J3 m = some w ∧ s = [] ∧ ob = []) (K3 0 6 7) J3 ?_ ?_
 refine jM (Aj I (Aj I (jM ?_)))
 obtain ⟨Q, E, n⟩ := Ac h
 refine Cg E (K4 0 3 6 7) J4 (fun (o : Int) s ob => s = [(4, .V o)] ∧ ob = []) ⟨I, I⟩ ⟨I, J⟩ (pk []) ?_
 rintro o R s ob ⟨rfl, rfl⟩ h p
 refine Ab fun S F => Aj I (Ar h I ?_ ?_)
 intro G h
 refine jL ?_
 subst F
 refine jK (jM (jK ?_))
 obtain ⟨d, ⟨H, K⟩, h⟩ := Bh h
 refine jT (pd 9 0 []) [] [] I (Bx 8 [.x 2 b (rS i), .x 6 d.1 (rS d.2)] I ⟨⟨H, Ag K⟩, ⟨I, Ag y⟩, J⟩ (jZ I (Yp.cmpS (c := Si i d.2) I I I) I (Ap (jH (Ar h I ?_ ?_)))))
 intro M h
 refine Aj I ?_
 obtain rfl := p _ (oi h).symm
 have h := n
 have h := De h
 obtain rfl := A _ (oi h).symm
 have h := f
 have h := Db h
 cases io h
 exact jN pr
 intro M h
 refine jL (jG (Af 3 I ?_))
 cases io h
 exact jH ⟨_, _, _, I, I2, J5, pk []⟩
 intro G h
 obtain rfl := p _ (oi h).symm
 have h := n
 have h := Db h
 exact jP (lg ⟨(), h, I2⟩ [])
 rintro s ob ⟨m, h, rfl, rfl⟩
 unfold Nt.J3 at h
 refine jG (Ao 2 [.k 0 (b + 1 : Nat)] I ⟨Ay j t, J⟩ ?_)
 cases io h
 exact jH ⟨_, _, _, I, I2, J3, pk []⟩
 rintro g s ob ⟨rfl, rfl⟩ he
 subst he
 have h := De f
 have N := Cz a.length
 exact Aj I (Ab fun U W => Bu I N (jP (lg ⟨(), h, I2⟩ [])))
 rintro s ob ⟨e, h, rfl, rfl⟩
 unfold Nt.J1 at h
 refine Aj I ?_
 cases io h
 exact jN pr
theorem Y6 (a : Sg) (r : Bool) (h : Ng a = some r) : ACalls Ah 149 [.agg (Am a)] [] (RB r) := by
 refine Ae Tryz.func149 I I I fun C hC => ?_
 unfold Ng at h
 refine Ab fun y1 K => jG (jI [] I (Br (Am a) 7 fun u => Af 1 I (jH ?_)))
 subst K
 refine Ab fun y3 M => Ai (fun s ob => ∃ (w : Bool), Ng.J1 a w = some r ∧ s = [(49, .v (.bool w))] ∧ ob = [O7 u [Am a]]) [(1, _)] J1 ?_ ?_
 refine jT (pd 45 0 [8, 14, 20]) [0] [_] I (Bx 6 [.o 1 0, .o 3 0] I J2 ?_)
 rcases bt ((a.From == a.To)) with c | c
 have h := Bp c h
 exact A4 10 I c (Ax 39 I (Ap (jH (lg ⟨true, h, I2⟩ [0]))))
 have h := Bq c h
 refine A4 10 I c (Bx 2 [.o 1 0] I J1 (G2 I (Co a.Capacity 1 1000000 _ I) (Ax 3 I ?_)))
 rcases bt ((!(B8 a.Capacity 1 1000000))) with d | d
 have h := Bp d h
 exact A4 16 I d (Ax 33 I (Ap (jH (lg ⟨true, h, I2⟩ [0]))))
 have h := Bq d h
 refine A4 16 I d (Bx 2 [.o 1 0] I J1 (G2 I (Co a.Resist 0 1000 _ I) (Ax 3 I ?_)))
 rcases bt ((!(B8 a.Resist 0 1000))) with e | e
 have h := Bp e h
 exact A4 22 I e (Ax 27 I (Ap (jH (lg ⟨true, h, I2⟩ [0]))))
 have h := Bq e h
 refine A4 22 I e (Bx 2 [.o 1 0] I J1 (G2 I (Co a.Wave 0 100000 _ I) (Ax 3 I ?_)))
 rcases bt ((!(B8 a.Wave 0 100000))) with f | f
 have h := Bp f h
 exact A4 28 I f (Ax 21 I (Ap (jH (lg ⟨true, h, I2⟩ [0]))))
 have h := Bq f h
 obtain ⟨y, ⟨N, O⟩, h⟩ := Bh h
 refine A4 28 I f (Bx 8 [.o 1 0, .x 2 y.1 (Ce y.2)] I ⟨⟨N, Ag O⟩, I, J⟩ ?_)
 rcases bt ((y.2.At != 0)) with g | g
 have h := Bp g h
 exact A4 36 I g (Ax 13 I (Ap (jH (lg ⟨true, h, I2⟩ [0]))))
 have h := Bq g h
 obtain ⟨A, ⟨P, Q⟩, h⟩ := Bh h
 exact A4 36 I g (Bx 13 [.o 1 0, .o 3 0, .l 4 (a.Points.length : Int), .x 6 A.1 (Ce A.2), .o 10 0] I ⟨I, ⟨P, Ag Q⟩, As, I, I, J⟩ (Ap (jH (lg ⟨(A.2.At != a.Capacity), h, I2⟩ [0]))))
 rintro s ob ⟨w, h, rfl, rfl⟩
 refine Ar h I ?_ ?_
 intro R h
 refine Aj I (jO g0 ?_)
 cases io h
 exact jN pr
 intro R h
 refine jL ?_
 subst M
 refine Ai (fun s ob => ∃ (E : Unit), Ng.J2 E = some r ∧ s = [] ∧ ob = []) [] J ?_ ?_
 refine Bd [.o 1 0, .l 2 (a.Points.length : Int)] I ⟨As, I, J⟩ (jM (Ca 51 I fun S => ?_))
 obtain ⟨ai, U, F⟩ := Ac h
 refine Bw U (K3 1 51 52) J3 (fun (i : Nat) (G : Unit) s ob => s = [(53, .V (i : Int))] ∧ ob = [O7 u [Am a]]) ⟨I, I⟩ ⟨I, J⟩ (pk [0]) ?_ ?_
 rintro i b G W s ob X H ⟨rfl, rfl⟩ h Y
 unfold Ng.B3 at h
 have Z := Cy H
 refine Aj I (Ab fun aj aa => Bs I Z (jL ?_))
 subst aa
 refine jK (jM (Ab fun ak ab => jG (Ao 3 [.x 1 i (Ce b)] I ⟨⟨I, Ag X⟩, J⟩ (jI [] I (Bf [.V 0, .V 0, .V 0] 3 fun al => Af 1 I (jI [1] I (A1 1 0 0 [Ce b] I (jH ?_))))))))
 subst ab
 refine Ai (fun s ob => ∃ (B : Bool), Ng.J4 B = some W ∧ s = [(83, .v (.bool B))] ∧ ob = [O7 u [Am a]]) (K4 1 51 52 53) J4 ?_ ?_
 rcases bt (decide ((i : Int) > 0)) with j | j
 have h := Bp j h
 obtain ⟨D, ⟨ac, ad⟩, h⟩ := Bh h
 refine jT (pd 26 0 [17, 23]) [1, 0] [_, _] I (Ax 3 I (A4 60 I j (Bx 12 [.o 1 0, .o 3 1, .x 6 D.1 (Ce D.2)] I ⟨⟨ac, Ag ad⟩, I, I, J⟩ ?_)))
 rcases bt (decide (b.At ≤ D.2.At)) with n | n
 have h := Bp n h
 exact A4 72 I n (Ax 11 I (Ap (jH (lg ⟨true, h, I2⟩ [0]))))
 have h := Bq n h
 refine A4 72 I n (Bx 2 [.o 1 0] I J1 (G2 I (Co b.Height (-500) 5000 _ I) (Ax 3 I ?_)))
 rcases bt ((!(B8 b.Height (-500) 5000))) with p | p
 have h := Bp p h
 exact A4 78 I p (Ax 5 I (Ap (jH (lg ⟨true, h, I2⟩ [0]))))
 have h := Bq p h
 exact A4 78 I p (Bx 2 [.o 1 0] I J1 (G2 I (Co b.Limit 0 100000000 _ I) (Ax 2 I (Ap (jH (lg ⟨(!(B8 b.Limit 0 100000000)), h, I2⟩ [0]))))))
 have h := Bq j h
 refine jT (pd 26 0 [17, 23]) [1] [_] I (Ax 3 I (A4 60 I j (Bx 14 [.o 13 0] I J1 (G2 I (Co b.Height (-500) 5000 _ I) (Ax 3 I ?_)))))
 rcases bt ((!(B8 b.Height (-500) 5000))) with t | t
 have h := Bp t h
 exact A4 78 I t (Ax 5 I (Ap (jH (lg ⟨true, h, I2⟩ [0]))))
 have h := Bq t h
 exact A4 78 I t (Bx 2 [.o 1 0] I J1 (G2 I (Co b.Limit 0 100000000 _ I) (Ax 2 I (Ap (jH (lg ⟨(!(B8 b.Limit 0 100000000)), h, I2⟩ [0]))))))
 rintro s ob ⟨B, h, rfl, rfl⟩
 refine Ar h I ?_ ?_
 intro ae h
 refine Aj I ?_
 obtain rfl := Y _ (oi h).symm
 have h := F
 have h := Db h
 refine jO g0 ?_
 cases io h
 exact jN pr
 intro ae h
 refine jL (jG (Ao 2 [.k 0 (i + 1 : Nat)] I ⟨Ay H S, J⟩ ?_))
 cases io h
 exact jH ⟨_, _, _, I, I2, J4, pk [0]⟩
 rintro G s ob ⟨rfl, rfl⟩ he
 subst he
 have h := De F
 have af := Cz a.Points.length
 exact Aj I (Ab fun am an => Bu I af (jP (lg ⟨(), h, I2⟩ [])))
 rintro s ob ⟨E, h, rfl, rfl⟩
 unfold Ng.J2 at h
 refine Aj I ?_
 cases io h
 exact jN pr
theorem Za (a : Nw) (r : Int) (h : F9 a = some r) : ACalls Ah 82 [.agg (Aa a)] [] (RV (.V r)) := by
 refine Ae Tryz.func82 I I I fun C hC => ?_
 unfold F9 at h
 refine Ab fun y1 bn => jG (jI [] I (Br (Aa a) 6 fun b => Af 1 I (jH ?_)))
 subst bn
 refine Ab fun y3 bo => Dv 49 ((!(B8 (a.Nodes.length : Int) 1 24)) || (decide ((a.Segments.length : Int) > 32) || (decide ((a.Ports.length : Int) > 24) || decide ((a.Stations.length : Int) > 12)))) ?_ ?_
 refine jG (Ao 3 [.o 1 0, .l 2 (a.Nodes.length : Int)] I ⟨As, I, J⟩ (jU (Co (a.Nodes.length : Int) 1 24 _ I) (Af 2 I ?_)))
 rcases bt ((!(B8 (a.Nodes.length : Int) 1 24))) with g | g
 exact Ad 32 I g (Af 17 I (jH (jf (by simp only [g, bz]) I I I2)))
 refine Ad 32 I g (Ao 6 [.o 1 0, .l 2 (a.Segments.length : Int)] I ⟨As, I, J⟩ ?_)
 rcases bt (decide ((a.Segments.length : Int) > 32)) with j | j
 exact Ad 38 I j (Af 11 I (jH (jf (by simp only [g, j, bz]) I I I2)))
 refine Ad 38 I j (Ao 6 [.o 1 0, .l 2 (a.Ports.length : Int)] I ⟨As, I, J⟩ ?_)
 rcases bt (decide ((a.Ports.length : Int) > 24)) with t | t
 exact Ad 44 I t (Af 5 I (jH (jf (by simp only [g, j, t, bz]) I I I2)))
 exact Ad 44 I t (Ao 5 [.o 1 0, .l 2 (a.Stations.length : Int)] I ⟨As, I, J⟩ (jH (jf (by simp only [g, j, t, bz]) I I I2)))
 refine Ar h I ?_ ?_
 intro bp h
 refine Aj I (jO g0 ?_)
 cases io h
 exact jN pr
 intro bp h
 refine jL ?_
 subst bo
 refine Ai (fun s ob => ∃ (Z : Unit), F9.J1 a Z = some r ∧ s = [] ∧ ob = [O1 b [Aa a]]) [(1, _)] J1 ?_ ?_
 refine Bd [.o 1 0, .l 2 (a.Segments.length : Int)] I ⟨As, I, J⟩ (jM (Ca 51 I fun bq => ?_))
 obtain ⟨e4, br, aa⟩ := Ac h
 refine Bw br (K3 1 51 52) J3 (fun (B : Nat) (ab : Unit) s ob => s = [(53, .V (B : Int))] ∧ ob = [O1 b [Aa a]]) ⟨I, I⟩ ⟨I, J⟩ (pk [0]) ?_ ?_
 rintro B D ab e5 s ob bs ac ⟨rfl, rfl⟩ h bu
 have bv := Cy ac
 refine Aj I (Ab fun e6 bw => Bs I bv (jL ?_))
 subst bw
 refine jK (jM (jK (jG (Ao 2 [.x 0 B (Am D)] I ⟨⟨I, Ag bs⟩, J⟩ (jI [] I (Bf W1 7 fun e7 => jI [1] I (A1 1 0 0 [Am D] I (jH (jK (jG (Ao 3 [.o 1 1, .l 2 (D.Points.length : Int)] I ⟨As, I, J⟩ (jU (Co (D.Points.length : Int) 2 8 _ I) (Af 1 I ?_)))))))))))))
 refine jH (Ar h I ?_ ?_)
 intro bx h
 refine Aj I ?_
 obtain rfl := bu _ (oi h).symm
 have h := aa
 have h := Db h
 refine jO g0 ?_
 cases io h
 exact jN pr
 intro bx h
 refine jL (jG (Ao 2 [.k 0 (B + 1 : Nat)] I ⟨Ay ac bq, J⟩ ?_))
 cases io h
 exact jH ⟨_, _, _, I, I2, J4, pk [0]⟩
 rintro ab s ob ⟨rfl, rfl⟩ he
 subst he
 have h := De aa
 have b0 := Cz a.Segments.length
 exact Aj I (Ab fun e8 e9 => Bu I b0 (jP (lg ⟨(), h, I2⟩ [0])))
 rintro s ob ⟨Z, h, rfl, rfl⟩
 refine Ab fun fa b1 => ?_
 obtain ⟨f, b3, h⟩ := Ac h
 refine jG (Ao 1 [.o 0 0] I J1 (jI [] I (Cq I I I (Y9 _ _ b3) dS ?_)))
 rintro _ _ ⟨rfl, rfl⟩
 refine jI [] I (Bf W2 4 fun E => jI [1] I (jS 1 0 0 (es' := [f.l.map (cL 1 rS)]) I I I I I I I (by simp [Arr.h, Az]) (by simp [Arr.h, Az]) I (congrArg (fun r => [r]) (Jl (by simp [Arr.h, Az]))) (jH ?_)))
 subst b1
 refine Ai (fun s ob => ∃ (ad : Unit), F9.J2 a f ad = some r ∧ s = [] ∧ ob = [O1 b [Aa a], O3 E [f.l.map (cL 1 rS)]]) (K2 1 5) J2 ?_ ?_
 refine Ab fun fb b4 => jG (jR (Bn 1 0 0 I I I I I (y := .agg (f.l.map (cL 1 rS))) (Jm I (by simp [Arr.h, Az]))) I (Af 1 I (jH ?_)))
 subst b4
 refine jM ?_
 have b5 : (4 : Nat) ≤ 9223372036854775806 := by decide
 obtain ⟨fc, b6, ae⟩ := Ac h
 refine Ft b6 (K3 1 5 65) J3 (fun (F : Nat) (af : Unit) s ob => s = [(66, .V (F : Int))] ∧ ob = [O1 b [Aa a], O3 E [f.l.map (cL 1 rS)]]) ⟨I, I⟩ ⟨I, J⟩ (pk [0, 1]) ?_ ?_
 rintro F af b7 s ob b8 ⟨rfl, rfl⟩ h b9
 unfold F9.B21 at h
 have ca : decide ((F : Int) < 4) = true := decide_eq_true (by omega)
 refine Aj I (Ab fun fd cb => Bs I ca (jL ?_))
 subst cb
 refine Ai (fun s ob => ∃ (ag : Unit), F9.J22 ag = some b7 ∧ s = [] ∧ ob = [O1 b [Aa a], O3 E [f.l.map (cL 1 rS)]]) (K4 1 5 65 66) J4 ?_ ?_
 refine jM (Ab fun fe cc => ?_)
 obtain ⟨U, ⟨cd, ce⟩, h⟩ := Bh h
 refine jG (Bv (E9 (m := U.1) I I I I I I I cd ce (hlen := Arr.h _)) I (Af 1 I (jH ?_)))
 subst cc
 refine Bd [.l 1 (U.2.length : Int)] I ⟨As, J⟩ (jM (Ca 69 I fun cf => ?_))
 obtain ⟨ff, cg, ah⟩ := Ac h
 refine Bw cg (K6 1 5 65 66 69 70) J6 (fun (G : Nat) (ai : Unit) s ob => s = [(71, .V (G : Int))] ∧ ob = [O1 b [Aa a], O3 E [f.l.map (cL 1 rS)]]) ⟨I, I⟩ ⟨I, J⟩ (pk [0, 1]) ?_ ?_
 rintro G ci ai fg s ob cj aj ⟨rfl, rfl⟩ h ck
 have cl := Cy aj
 refine Aj I (Ab fun fh cm => Bs I cl (jL ?_))
 subst cm
 refine jK (jM (Bd [.x 0 G (rS ci)] I ⟨⟨I, Ag cj⟩, J⟩ (jK ?_)))
 obtain ⟨fi, cn, h⟩ := Ac h
 refine jG (Af 1 I (jU (Y8 _ _ cn) (Af 1 I (jH (Ar h I ?_ ?_)))))
 intro co h
 refine Aj I ?_
 obtain rfl := ck _ (oi h).symm
 have h := ah
 have h := Db h
 obtain rfl := b9 _ (oi h).symm
 have h := ae
 have h := Db h
 refine jO g0 ?_
 cases io h
 exact jN pr
 intro co h
 refine jL (jG (Ao 2 [.k 0 (G + 1 : Nat)] I ⟨Ay aj cf, J⟩ ?_))
 cases io h
 exact jH ⟨_, _, _, I, I2, J7, pk [0, 1]⟩
 rintro ai s ob ⟨rfl, rfl⟩ he
 subst he
 have h := De ah
 have cp := Cz U.2.length
 exact Aj I (Ab fun fj fk => Bu I cp (jP (lg ⟨(), h, I2⟩ [0, 1])))
 rintro s ob ⟨ag, h, rfl, rfl⟩
 unfold F9.J22 at h
 refine jG (Ao 2 [.k 0 (F + 1 : Nat)] I ⟨Ay b8 b5, J⟩ ?_)
 cases io h
 exact jH ⟨_, _, _, I, I2, J4, pk [0, 1]⟩
 rintro af s ob ⟨rfl, rfl⟩ he
 subst he
 have h := De ae
 have cq : decide (((4 : Nat) : Int) < 4) = false := by simp
 exact Aj I (Ab fun fl fm => Bu I cq (jP (lg ⟨(), h, I2⟩ [0, 1])))
 rintro s ob ⟨ad, h, rfl, rfl⟩
 unfold F9.J2 at h
 refine Ai (fun s ob => ∃ (ak : Unit), F9.J3 a ak = some r ∧ s = [] ∧ ob = [O1 b [Aa a]]) [(1, _)] J1 ?_ ?_
 refine Ab fun fn cr => jG (jR (Bn 1 0 0 I I I I I (y := .agg (f.l.map (cL 1 rS))) (Jm I (by simp [Arr.h, Az]))) I (Af 1 I (jH ?_)))
 subst cr
 refine jM ?_
 have ct : (4 : Nat) ≤ 9223372036854775806 := by decide
 obtain ⟨fo, cu, al⟩ := Ac h
 refine Ft cu (K2 1 80) J2 (fun (H : Nat) (am : Unit) s ob => s = [(81, .V (H : Int))] ∧ ob = [O1 b [Aa a]]) ⟨I, I⟩ ⟨I, J⟩ (pk [0]) ?_ ?_
 rintro H am fp s ob cv ⟨rfl, rfl⟩ h cw
 have cx : decide ((H : Int) < 4) = true := decide_eq_true (by omega)
 refine Aj I (Ab fun fq cy => Bs I cx (jL ?_))
 subst cy
 refine jK (jM (jK ?_))
 obtain ⟨cz, ⟨c0, c1⟩, h⟩ := Bh h
 refine jG (Bv (E9 (m := cz.1) I I I I I I I c0 c1 (hlen := Arr.h _)) I (Af 1 I (jH (jK ?_))))
 obtain ⟨fr, c2, h⟩ := Ac h
 refine jG (Af 1 I (jU (Zy _ _ c2) (jH (Ar h I ?_ ?_))))
 intro c3 h
 refine Aj I ?_
 obtain rfl := cw _ (oi h).symm
 have h := al
 have h := Db h
 refine jO g0 ?_
 cases io h
 exact jN pr
 intro c3 h
 refine jL (jG (Ao 2 [.k 0 (H + 1 : Nat)] I ⟨Ay cv ct, J⟩ ?_))
 cases io h
 exact jH ⟨_, _, _, I, I2, J3, pk [0]⟩
 rintro am s ob ⟨rfl, rfl⟩ he
 subst he
 have h := De al
 have c4 : decide (((4 : Nat) : Int) < 4) = false := by simp
 exact Aj I (Ab fun fs ft => Bu I c4 (jP (lg ⟨(), h, I2⟩ [0])))
 rintro s ob ⟨ak, h, rfl, rfl⟩
 unfold F9.J3 at h
 refine Ai (fun s ob => ∃ (an : Unit), F9.J4 a an = some r ∧ s = [] ∧ ob = [O1 b [Aa a]]) [(1, _)] J1 ?_ ?_
 refine Bd [.o 1 0, .l 2 (a.Stations.length : Int)] I ⟨As, I, J⟩ (jM (Ca 88 I fun c5 => ?_))
 obtain ⟨fu, c6, ao⟩ := Ac h
 refine Bw c6 (K2 1 89) J2 (fun (K : Nat) (ap : Unit) s ob => s = [(90, .V (K : Int))] ∧ ob = [O1 b [Aa a]]) ⟨I, I⟩ ⟨I, J⟩ (pk [0]) ?_ ?_
 rintro K c7 ap c8 s ob c9 aq ⟨rfl, rfl⟩ h da
 unfold F9.B17 at h
 have db := Cy aq
 refine Aj I (Ab fun fv dc => Bs I db (jL ?_))
 subst dc
 refine Ai (fun s ob => ∃ (ar : Unit), F9.J18 ar = some c8 ∧ s = [] ∧ ob = [O1 b [Aa a]]) (K3 1 89 90) J3 ?_ ?_
 refine jM (Aj I (Aj I (jM ?_)))
 obtain ⟨fw, dd, au⟩ := Ac h
 refine Cg dd (K4 1 12 89 90) J4 (fun (av : Int) s ob => s = [(13, .V av)] ∧ ob = [O1 b [Aa a]]) ⟨I, I⟩ ⟨I, J⟩ (pk [0]) ?_
 rintro av fx s ob ⟨rfl, rfl⟩ h aw
 refine Ab fun fy de => Aj I (Ar h I ?_ ?_)
 intro df h
 refine jL ?_
 subst de
 refine jK (jM (jK ?_))
 obtain ⟨ax, ⟨dg, dh⟩, h⟩ := Bh h
 refine Su (pd 13 0 []) [0] [_] [.o 1 0, .x 3 K (A5 c7), .o 7 0, .x 9 ax.1 (A5 ax.2)] I I ⟨⟨dg, Ag dh⟩, I, ⟨I, Ag c9⟩, I, J⟩ (Ar h I ?_ ?_)
 intro di h
 refine Aj I ?_
 obtain rfl := aw _ (oi h).symm
 have h := au
 have h := De h
 obtain rfl := da _ (oi h).symm
 have h := ao
 have h := Db h
 refine jO g0 ?_
 cases io h
 exact jN pr
 intro di h
 refine jL (jG (Af 3 I ?_))
 cases io h
 exact jH ⟨_, _, _, I, I2, J5, pk [0]⟩
 intro df h
 obtain rfl := aw _ (oi h).symm
 have h := au
 have h := Db h
 exact jP (lg ⟨(), h, I2⟩ [0])
 rintro s ob ⟨ar, h, rfl, rfl⟩
 unfold F9.J18 at h
 refine jG (Ao 2 [.k 0 (K + 1 : Nat)] I ⟨Ay aq c5, J⟩ ?_)
 cases io h
 exact jH ⟨_, _, _, I, I2, J3, pk [0]⟩
 rintro ap s ob ⟨rfl, rfl⟩ he
 subst he
 have h := De ao
 have dj := Cz a.Stations.length
 exact Aj I (Ab fun fz f0 => Bu I dj (jP (lg ⟨(), h, I2⟩ [0])))
 rintro s ob ⟨an, h, rfl, rfl⟩
 unfold F9.J4 at h
 refine Bd [.o 1 0, .l 2 (a.Nodes.length : Int)] I ⟨As, I, J⟩ (Ai (fun s ob => ∃ (ay : Unit), F9.J5 a ay = some r ∧ s = [] ∧ ob = [O1 b [Aa a]]) (K2 1 14) J2 ?_ ?_)
 refine Bd [.o 1 0, .l 2 (a.Segments.length : Int)] I ⟨As, I, J⟩ (jM (Ca 117 I fun dk => ?_))
 obtain ⟨f1, dl, az⟩ := Ac h
 refine Bw dl (K4 1 14 117 118) J4 (fun (M : Nat) (a0 : Unit) s ob => s = [(119, .V (M : Int))] ∧ ob = [O1 b [Aa a]]) ⟨I, I⟩ ⟨I, J⟩ (pk [0]) ?_ ?_
 rintro M i a0 f2 s ob dm a1 ⟨rfl, rfl⟩ h dn
 unfold F9.B16 at h
 have dp := Cy a1
 refine Aj I (Ab fun f3 dq => Bs I dp (jL ?_))
 subst dq
 refine jK (jM (Ab fun f4 dr => jG (Ao 2 [.x 0 M (Am i)] I ⟨⟨I, Ag dm⟩, J⟩ (jI [] I (Bf W1 7 fun f5 => jI [1] I (A1 1 0 0 [Am i] I (jH ?_)))))))
 subst dr
 refine Dv 134 ((!(B8 i.From 0 (wr ((a.Nodes.length : Int) - 1)))) || (!(B8 i.To 0 (wr ((a.Nodes.length : Int) - 1))))) ?_ ?_
 refine jG (Ao 3 [.o 1 1] I J1 (jU (Co i.From 0 (wr ((a.Nodes.length : Int) - 1)) _ I) (Af 2 I ?_)))
 rcases bt ((!(B8 i.From 0 (wr ((a.Nodes.length : Int) - 1))))) with u | u
 exact Ad 128 I u (Af 6 I (jH (jf (by simp only [u, bz]) I I I2)))
 exact Ad 128 I u (Ao 3 [.o 1 1] I J1 (A3 I I I (jU (Co i.To 0 (wr ((a.Nodes.length : Int) - 1)) _ I) (Af 2 I (jH (jf (by simp only [u, bz]) I I I2))))))
 refine Ar h I ?_ ?_
 intro ds h
 refine Aj I ?_
 obtain rfl := dn _ (oi h).symm
 have h := az
 have h := Db h
 refine jO g0 ?_
 cases io h
 exact jN pr
 intro ds h
 refine jL (jG (Ao 2 [.k 0 (M + 1 : Nat)] I ⟨Ay a1 dk, J⟩ ?_))
 cases io h
 exact jH ⟨_, _, _, I, I2, J5, pk [0]⟩
 rintro a0 s ob ⟨rfl, rfl⟩ he
 subst he
 have h := De az
 have du := Cz a.Segments.length
 exact Aj I (Ab fun f6 f7 => Bu I du (jP (lg ⟨(), h, I2⟩ [0])))
 rintro s ob ⟨ay, h, rfl, rfl⟩
 unfold F9.J5 at h
 refine Ai (fun s ob => ∃ (a2 : Unit), F9.J6 a a2 = some r ∧ s = [] ∧ ob = [O1 b [Aa a]]) (K2 1 14) J2 ?_ ?_
 refine Bd [.o 1 0, .l 2 (a.Ports.length : Int)] I ⟨As, I, J⟩ (jM (Ca 137 I fun dv => ?_))
 obtain ⟨f8, dw, a3⟩ := Ac h
 refine Bw dw (K4 1 14 137 138) J4 (fun (O : Nat) (a4 : Unit) s ob => s = [(139, .V (O : Int))] ∧ ob = [O1 b [Aa a]]) ⟨I, I⟩ ⟨I, J⟩ (pk [0]) ?_ ?_
 rintro O W a4 f9 s ob dx a5 ⟨rfl, rfl⟩ h dy
 have dz := Cy a5
 refine Aj I (Ab fun ga d0 => Bs I dz (jL ?_))
 subst d0
 refine jK (jM (jK (jG (Ao 2 [.x 0 O (Bb W)] I ⟨⟨I, Ag dx⟩, J⟩ (jI [] I (Bf W5 3 fun gb => jI [1] I (A1 1 0 0 [Bb W] I (jH (jK (jG (Ao 3 [.o 1 1] I J1 (jU (Co W.Node 0 (wr ((a.Nodes.length : Int) - 1)) _ I) (Af 1 I ?_)))))))))))))
 refine jH (Ar h I ?_ ?_)
 intro d1 h
 refine Aj I ?_
 obtain rfl := dy _ (oi h).symm
 have h := a3
 have h := Db h
 refine jO g0 ?_
 cases io h
 exact jN pr
 intro d1 h
 refine jL (jG (Ao 2 [.k 0 (O + 1 : Nat)] I ⟨Ay a5 dv, J⟩ ?_))
 cases io h
 exact jH ⟨_, _, _, I, I2, J5, pk [0]⟩
 rintro a4 s ob ⟨rfl, rfl⟩ he
 subst he
 have h := De a3
 have d2 := Cz a.Ports.length
 exact Aj I (Ab fun gc gd => Bu I d2 (jP (lg ⟨(), h, I2⟩ [0])))
 rintro s ob ⟨a2, h, rfl, rfl⟩
 unfold F9.J6 at h
 refine Ai (fun s ob => ∃ (a6 : Unit), F9.J7 a a6 = some r ∧ s = [] ∧ ob = [O1 b [Aa a]]) [(1, _)] J1 ?_ ?_
 refine Bd [.o 1 0, .l 2 (a.Stations.length : Int)] I ⟨As, I, J⟩ (jM (Ca 150 I fun d3 => ?_))
 obtain ⟨ge, d4, a7⟩ := Ac h
 refine Bw d4 (K4 1 14 150 151) J4 (fun (P : Nat) (a8 : Unit) s ob => s = [(152, .V (P : Int))] ∧ ob = [O1 b [Aa a]]) ⟨I, I⟩ ⟨I, J⟩ (pk [0]) ?_ ?_
 rintro P X a8 gf s ob d5 a9 ⟨rfl, rfl⟩ h d6
 have d7 := Cy a9
 refine Aj I (Ab fun gg d8 => Bs I d7 (jL ?_))
 subst d8
 refine jK (jM (jK (jG (Ao 2 [.x 0 P (A5 X)] I ⟨⟨I, Ag d5⟩, J⟩ (jI [] I (Bf W6 5 fun gh => jI [1] I (A1 1 0 0 [A5 X] I (jH (jK (jG (Ao 3 [.o 1 1] I J1 (jU (Co X.Node 0 (wr ((a.Nodes.length : Int) - 1)) _ I) (Af 1 I ?_)))))))))))))
 refine jH (Ar h I ?_ ?_)
 intro d9 h
 refine Aj I ?_
 obtain rfl := d6 _ (oi h).symm
 have h := a7
 have h := Db h
 refine jO g0 ?_
 cases io h
 exact jN pr
 intro d9 h
 refine jL (jG (Ao 2 [.k 0 (P + 1 : Nat)] I ⟨Ay a9 d3, J⟩ ?_))
 cases io h
 exact jH ⟨_, _, _, I, I2, J5, pk [0]⟩
 rintro a8 s ob ⟨rfl, rfl⟩ he
 subst he
 have h := De a7
 have ea := Cz a.Stations.length
 exact Aj I (Ab fun gi gj => Bu I ea (jP (lg ⟨(), h, I2⟩ [0])))
 rintro s ob ⟨a6, h, rfl, rfl⟩
 unfold F9.J7 at h
 refine Ai (fun s ob => ∃ (ba : Unit), F9.J8 a ba = some r ∧ s = [] ∧ ob = [O1 b [Aa a]]) [(1, _)] J1 ?_ ?_
 refine Bd [.o 1 0, .l 2 (a.Segments.length : Int)] I ⟨As, I, J⟩ (jM (Ca 163 I fun eb => ?_))
 obtain ⟨gk, ec, bb⟩ := Ac h
 refine Bw ec (K3 1 163 164) J3 (fun (Q : Nat) (bc : Unit) s ob => s = [(165, .V (Q : Int))] ∧ ob = [O1 b [Aa a]]) ⟨I, I⟩ ⟨I, J⟩ (pk [0]) ?_ ?_
 rintro Q bd bc gl s ob ed be ⟨rfl, rfl⟩ h ee
 have ef := Cy be
 refine Aj I (Ab fun gm eg => Bs I ef (jL ?_))
 subst eg
 refine jK (jM (jK (jG (Ao 2 [.x 0 Q (Am bd)] I ⟨⟨I, Ag ed⟩, J⟩ (jI [] I (Bf W1 7 fun gn => jI [1] I (A1 1 0 0 [Am bd] I (jH (jK ?_)))))))))
 obtain ⟨go, eh, h⟩ := Ac h
 refine jG (Ao 1 [.o 0 1] I J1 (jU (Y6 _ _ eh) (Af 1 I (jH (Ar h I ?_ ?_)))))
 intro ei h
 refine Aj I ?_
 obtain rfl := ee _ (oi h).symm
 have h := bb
 have h := Db h
 refine jO g0 ?_
 cases io h
 exact jN pr
 intro ei h
 refine jL (jG (Ao 2 [.k 0 (Q + 1 : Nat)] I ⟨Ay be eb, J⟩ ?_))
 cases io h
 exact jH ⟨_, _, _, I, I2, J4, pk [0]⟩
 rintro bc s ob ⟨rfl, rfl⟩ he
 subst he
 have h := De bb
 have ej := Cz a.Segments.length
 exact Aj I (Ab fun gp gq => Bu I ej (jP (lg ⟨(), h, I2⟩ [0])))
 rintro s ob ⟨ba, h, rfl, rfl⟩
 unfold F9.J8 at h
 refine Ai (fun s ob => ∃ (bf : Unit), F9.J9 a bf = some r ∧ s = [] ∧ ob = [O1 b [Aa a]]) [(1, _)] J1 ?_ ?_
 refine Bd [.o 1 0, .l 2 (a.Ports.length : Int)] I ⟨As, I, J⟩ (jM (Ca 174 I fun ek => ?_))
 obtain ⟨gr, el, bg⟩ := Ac h
 refine Bw el (K3 1 174 175) J3 (fun (R : Nat) (bh : Unit) s ob => s = [(176, .V (R : Int))] ∧ ob = [O1 b [Aa a]]) ⟨I, I⟩ ⟨I, J⟩ (pk [0]) ?_ ?_
 rintro R Y bh gs s ob em bi ⟨rfl, rfl⟩ h en
 have eo := Cy bi
 refine Aj I (Ab fun gu ep => Bs I eo (jL ?_))
 subst ep
 refine jK (jM (jK (jG (Ao 2 [.x 0 R (Bb Y)] I ⟨⟨I, Ag em⟩, J⟩ (jI [] I (Bf W5 3 fun gv => jI [1] I (A1 1 0 0 [Bb Y] I (jH (jK (jG (Ao 2 [.o 1 1] I J1 (jU (Co Y.Pressure 0 100000000 _ I) (Af 1 I ?_)))))))))))))
 refine jH (Ar h I ?_ ?_)
 intro eq h
 refine Aj I ?_
 obtain rfl := en _ (oi h).symm
 have h := bg
 have h := Db h
 refine jO g0 ?_
 cases io h
 exact jN pr
 intro eq h
 refine jL (jG (Ao 2 [.k 0 (R + 1 : Nat)] I ⟨Ay bi ek, J⟩ ?_))
 cases io h
 exact jH ⟨_, _, _, I, I2, J4, pk [0]⟩
 rintro bh s ob ⟨rfl, rfl⟩ he
 subst he
 have h := De bg
 have er := Cz a.Ports.length
 exact Aj I (Ab fun gw gx => Bu I er (jP (lg ⟨(), h, I2⟩ [0])))
 rintro s ob ⟨bf, h, rfl, rfl⟩
 unfold F9.J9 at h
 refine Ai (fun s ob => ∃ (bj : Unit), F9.J10 a bj = some r ∧ s = [] ∧ ob = [O1 b [Aa a]]) [(1, _)] J1 ?_ ?_
 refine Bd [.o 1 0, .l 2 (a.Stations.length : Int)] I ⟨As, I, J⟩ (jM (Ca 186 I fun es => ?_))
 obtain ⟨gy, et, bk⟩ := Ac h
 refine Bw et (K3 1 186 187) J3 (fun (S : Nat) (bl : Unit) s ob => s = [(188, .V (S : Int))] ∧ ob = [O1 b [Aa a]]) ⟨I, I⟩ ⟨I, J⟩ (pk [0]) ?_ ?_
 rintro S e bl gz s ob eu bm ⟨rfl, rfl⟩ h ev
 unfold F9.B11 at h
 have ew := Cy bm
 refine Aj I (Ab fun g1 ex => Bs I ew (jL ?_))
 subst ex
 refine jK (jM (Ab fun g2 ey => jG (Ao 2 [.x 0 S (A5 e)] I ⟨⟨I, Ag eu⟩, J⟩ (jI [] I (Bf W6 5 fun g3 => jI [1] I (A1 1 0 0 [A5 e] I (jH ?_)))))))
 subst ey
 refine Dv 207 ((!(B8 e.Head 0 100000000)) || ((!(B8 e.Fall 0 100000)) || (!(B8 e.Suction 0 100000000)))) ?_ ?_
 refine jG (Ao 2 [.o 1 1] I J1 (jU (Co e.Head 0 100000000 _ I) (Af 2 I ?_)))
 rcases bt ((!(B8 e.Head 0 100000000))) with n | n
 exact Ad 196 I n (Af 11 I (jH (jf (by simp only [n, bz]) I I I2)))
 refine Ad 196 I n (Ao 2 [.o 1 1] I J1 (A3 I I I (jU (Co e.Fall 0 100000 _ I) (Af 3 I ?_))))
 rcases bt ((!(B8 e.Fall 0 100000))) with w | w
 exact Ad 202 I w (Af 5 I (jH (jf (by simp only [n, w, bz]) I I I2)))
 exact Ad 202 I w (Ao 2 [.o 1 1] I J1 (A3 I I I (jU (Co e.Suction 0 100000000 _ I) (Af 2 I (jH (jf (by simp only [n, w, bz]) I I I2))))))
 refine Ar h I ?_ ?_
 intro ez h
 refine Aj I ?_
 obtain rfl := ev _ (oi h).symm
 have h := bk
 have h := Db h
 refine jO g0 ?_
 cases io h
 exact jN pr
 intro ez h
 refine jL (jG (Ao 2 [.k 0 (S + 1 : Nat)] I ⟨Ay bm es, J⟩ ?_))
 cases io h
 exact jH ⟨_, _, _, I, I2, J4, pk [0]⟩
 rintro bl s ob ⟨rfl, rfl⟩ he
 subst he
 have h := De bk
 have e0 := Cz a.Stations.length
 exact Aj I (Ab fun g4 g5 => Bu I e0 (jP (lg ⟨(), h, I2⟩ [0])))
 rintro s ob ⟨bj, h, rfl, rfl⟩
 unfold F9.J10 at h
 refine jK (Dv 218 ((!(B8 a.Vapour (-100000) 100000000)) || (!(B8 a.Settle 0 100))) ?_ ?_)
 refine jG (Ao 2 [.o 1 0] I J1 (jU (Co a.Vapour (-100000) 100000000 _ I) (Af 2 I ?_)))
 rcases bt ((!(B8 a.Vapour (-100000) 100000000))) with A | A
 exact Ad 213 I A (Af 5 I (jH (jf (by simp only [A, bz]) I I I2)))
 exact Ad 213 I A (Ao 2 [.o 1 0] I J1 (A3 I I I (jU (Co a.Settle 0 100 _ I) (Af 2 I (jH (jf (by simp only [A, bz]) I I I2))))))
 refine Ar h I ?_ ?_
 intro e1 h
 refine Aj I (jO g0 ?_)
 cases io h
 exact jN pr
 intro e1 h
 refine jL (Aj I (jO g0 ?_))
 cases io h
 exact jN pr
theorem Qs (a : Sg) (b : Int) (r : Int × Int) (h : Hj a b = r) : ACalls Ah 162 [.agg (Am a), .V b] [] (RV (.tup [.V r.1, .V r.2])) := by
 refine Ae Tryz.func162 I I I fun C hC => ?_
 refine Ab fun e c => jG (jI [] I (Br (Am a) 7 fun f => Af 2 I (jH ?_)))
 subst c
 refine jK (Aj I (Ar h I ?_ ?_))
 intro d h
 refine Mp (pd 6 0 []) [0] [_] [.o 1 0, .o 3 0] I I J2 (jO g0 ?_)
 obtain rfl := h
 exact jN ⟨.inr I, [_, _], [], J2, Ct, I2⟩
 intro d h
 refine jL (Mp (pd 6 0 []) [0] [_] [.o 1 0, .o 3 0] I I J2 (jO g0 ?_))
 obtain rfl := h
 exact jN ⟨.inr I, [_, _], [], J2, Ct, I2⟩
theorem Qr (d : Nw) (e : Plan) (n : Int) (r : Int × Int) (h : Hi d e n = some r) : ACalls Ah 105 [.agg (Aa d), .agg (Al e), .V n] [] (RV (.tup [.V r.1, .V r.2])) := by
 refine Ae Tryz.func105 I I I fun C hC => ?_
 unfold Hi at h
 refine Ab fun y1 Q => jG (jI [] I (Br (Aa d) 6 fun p => jI [] I (Br (Al e) 3 fun g => Af 2 I (jH ?_))))
 subst Q
 refine Aj I (Ai (fun s ob => ∃ (t : Int × Int), Hi.J1 d e n t = some r ∧ s = [(8, .V t.1), (9, .V t.2)] ∧ ob = [O1 p [Aa d], O0 g [Al e]]) (K3 2 3 4) J3 ?_ ?_)
 refine Bd [.o 1 0, .l 2 (d.Segments.length : Int)] I ⟨As, I, J⟩ (jM (Ca 17 I fun R => ?_))
 obtain ⟨ar, S, U⟩ := Ac h
 refine C1 S (K5 2 3 4 17 18) J5 (fun (u : Nat) (b : Int × Int) s ob => s = [(19, .V (u : Int)), (8, .V b.1), (9, .V b.2)] ∧ ob = [O1 p [Aa d], O0 g [Al e]]) ⟨I, I⟩ ⟨I, I, I, J⟩ (pk [0, 1]) ?_ ?_
 rintro u w b G s ob W H ⟨rfl, rfl⟩ h
 unfold Hi.B5 at h
 have X := Cy H
 refine Aj I (Ab fun au Y => Bs I X (jL ?_))
 subst Y
 refine Ai (fun s ob => ∃ (y : Int × Int), Hi.J6 y = some G ∧ s = [(8, .V y.1), (9, .V y.2)] ∧ ob = [O1 p [Aa d], O0 g [Al e]]) (K6 2 3 4 17 18 19) J6 ?_ ?_
 refine jM (Ab fun av Z => jG (Ao 3 [.x 1 u (Am w)] I ⟨⟨I, Ag W⟩, J⟩ (jI [] I (Bf W1 7 fun aw => Af 1 I (jI [2] I (A1 2 0 0 [Am w] I (jH ?_)))))))
 subst Z
 refine Ab fun ax aa => jK ?_
 obtain ⟨a, ⟨A, B⟩, h⟩ := Bh h
 refine Mo [.o 1 1, .x 3 a.1 (rI a.2)] I ⟨⟨A, Ag B⟩, I, J⟩ (Ar h I ?_ ?_)
 intro ab h
 exact jP (lg ⟨(b.1, b.2), h, I2⟩ [0, 1])
 intro ab h
 refine jL ?_
 subst aa
 refine Ab fun ay ac => jT (pd 12 0 [6]) [2, 1] [_, _] I (Bx 6 [.o 0 0, .o 2 1, .x 4 a.1 (rI a.2)] I ⟨⟨A, Ag B⟩, I, I, J⟩ (kC I (Qs w a.2 _ I) (Ax 5 I (Ap (jH ?_)))))
 subst ac
 refine Ai (fun s ob => ∃ (j : Int), Hi.J7 n w b a j = some G ∧ s = [(9, .V j)] ∧ ob = [O1 p [Aa d], O0 g [Al e]]) (K9 2 3 4 8 10 13 17 18 19) J9 ?_ ?_
 refine Aj I (Ar h I ?_ ?_)
 intro ad h
 exact jG (Ao 6 [.o 2 1, .x 4 a.1 (rI a.2)] I ⟨⟨A, Ag B⟩, I, J⟩ (jU (Qj a.2 _ I) (Af 2 I (jH (lg ⟨wr (b.2 + (He a.2)), h, I2⟩ [0, 1])))))
 intro ad h
 exact jL (lg ⟨b.2, h, I2⟩ [0, 1])
 rintro s ob ⟨j, h, rfl, rfl⟩
 refine Aj I (Ar h I ?_ ?_)
 intro ae h
 exact jG (Ao 6 [.o 2 1, .x 4 a.1 (rI a.2)] I ⟨⟨A, Ag B⟩, I, J⟩ (jU (Qj a.2 _ I) (Af 2 I (jH (lg ⟨(wr (b.1 + (He a.2)), j), h, I2⟩ [0, 1])))))
 intro ae h
 exact jL (lg ⟨(b.1, j), h, I2⟩ [0, 1])
 rintro s ob ⟨y, h, rfl, rfl⟩
 unfold Hi.J6 at h
 refine jG (Ao 2 [.k 0 (u + 1 : Nat)] I ⟨Ay H R, J⟩ ?_)
 cases io h
 exact jH (lg I2 [0, 1])
 rintro b s ob ⟨rfl, rfl⟩ he
 subst he
 have h := U
 have af := Cz d.Segments.length
 exact Aj I (Ab fun az a0 => Bu I af (jP (lg ⟨(b.1, b.2), h, I2⟩ [0, 1])))
 rintro s ob ⟨t, h, rfl, rfl⟩
 unfold Hi.J1 at h
 refine Ai (fun s ob => ∃ (D : Int × Int), Hi.J2 D = some r ∧ s = [(8, .V D.1), (9, .V D.2)] ∧ ob = []) [] J ?_ ?_
 refine Bd [.o 1 0, .l 2 (d.Ports.length : Int)] I ⟨As, I, J⟩ (jM (Ca 64 I fun ag => ?_))
 obtain ⟨a1, ah, ai⟩ := Ac h
 refine C1 ah (K4 2 4 64 65) J4 (fun (E : Nat) (f : Int × Int) s ob => s = [(66, .V (E : Int)), (8, .V f.1), (9, .V f.2)] ∧ ob = [O0 g [Al e]]) ⟨I, I⟩ ⟨I, I, I, J⟩ (pk [1]) ?_ ?_
 rintro E K f aj s ob ak M ⟨rfl, rfl⟩ h
 unfold Hi.B3 at h
 have al := Cy M
 refine Aj I (Ab fun a2 am => Bs I al (jL ?_))
 subst am
 refine Ai (fun s ob => ∃ (F : Int × Int), Hi.J4 F = some aj ∧ s = [(8, .V F.1), (9, .V F.2)] ∧ ob = [O0 g [Al e]]) (K5 2 4 64 65 66) J5 ?_ ?_
 refine jM (Ab fun a3 an => jG (Ao 3 [.x 1 E (Bb K)] I ⟨⟨I, Ag ak⟩, J⟩ (jI [] I (Bf W5 3 fun a4 => Af 1 I (jI [1] I (A1 1 0 0 [Bb K] I (jH ?_)))))))
 subst an
 refine Bd [.o 1 1] I J1 (Ar h I ?_ ?_)
 intro ao h
 obtain ⟨i, ⟨O, P⟩, h⟩ := Bh h
 exact Su (pd 19 0 []) [0] [_] [.o 2 0, .x 4 i.1 (rI i.2), .o 10 0, .x 12 i.1 (rI i.2)] I I ⟨⟨O, Ag P⟩, I, ⟨O, Ag P⟩, I, J⟩ (lg ⟨(wr (f.1 + (max 0 i.2)), wr (f.2 + (max 0 (wr (0 - i.2))))), h, I2⟩ [0])
 intro ao h
 exact jL (lg ⟨(f.1, f.2), h, I2⟩ [0])
 rintro s ob ⟨F, h, rfl, rfl⟩
 unfold Hi.J4 at h
 refine jG (Ao 2 [.k 0 (E + 1 : Nat)] I ⟨Ay M ag, J⟩ ?_)
 cases io h
 exact jH (lg I2 [0])
 rintro f s ob ⟨rfl, rfl⟩ he
 subst he
 have h := ai
 have ap := Cz d.Ports.length
 exact Aj I (Ab fun a5 a6 => Bu I ap (jP (lg ⟨(f.1, f.2), h, I2⟩ [])))
 rintro s ob ⟨D, h, rfl, rfl⟩
 unfold Hi.J2 at h
 refine Aj I ?_
 cases io h
 exact jN ⟨.inr I, [_, _], [], J2, Ct, I2⟩
theorem Zx (b : Nw) (g : Plan) (r : Li) (h : La b g = some r) : ACalls Ah 106 [.agg (Aa b), .agg (Al g)] [] (fun x new => ∃ (R : Value), x = .v R ∧ new = [U0 R r]) := by
 refine Ae Tryz.func106 I I I fun C hC => ?_
 refine Ab fun y1 ad => jG (jI [] I (Br (Aa b) 6 fun i => jI [] I (Br (Al g) 3 fun j => Af 1 I (jH ?_))))
 subst ad
 refine Aj I (Ab fun y5 ae => ?_)
 obtain ⟨l6, ⟨m8, af, ag, ah⟩, h⟩ := Mh h
 refine jG (Ao 3 [.o 1 0, .l 2 (b.Nodes.length : Int)] I ⟨As, I, J⟩ (jI [] I (Dy (sz := 1) I I I I I I I I I I af ag (Er (f := rB) ah I) dS fun n => Af 1 I (jH ?_))))
 subst ae
 refine jM (jO (Au 3 1) ?_)
 obtain ⟨bj, ai, aj⟩ := Ac h
 refine Cg ai (K3 2 3 6) J3 (fun (a : Li × (List Bool)) s ob => ∃ (e : Value), s = [(5, .v e)] ∧ ob = [O1 i [Aa b], O0 j [Al g], U1 n a.2, U0 e a.1]) ⟨nS, I2⟩ ⟨I, J⟩ (pk N4) ?_
 rintro a ak s ob ⟨e, rfl, rfl⟩ h al
 unfold La.B1 at h
 refine jM (Aj I (Ai (fun s ob => ∃ (G : Int), La.J2 a G = some ak ∧ s = [(7, .V G)] ∧ ob = [O1 i [Aa b], O0 j [Al g], U1 n a.2, U0 e a.1]) (K4 2 3 5 6) J4 ?_ ?_))
 refine Bd [.o 1 0, .l 2 (b.Nodes.length : Int)] I ⟨As, I, J⟩ (jM (Ca 19 I fun am => ?_))
 obtain ⟨bk, an, ao⟩ := Ac h
 refine C1 an (K5 2 3 5 6 20) J5 (fun (u : Nat) (p : Int) s ob => s = [(21, .V (u : Int)), (7, .V p)] ∧ ob = [O1 i [Aa b], O0 j [Al g], U1 n a.2, U0 e a.1]) ⟨I, I⟩ ⟨I, I, J⟩ (pk N4) ?_ ?_
 rintro u bl p S s ob bm U ⟨rfl, rfl⟩ h
 unfold La.B3 at h
 have aq := Cy U
 refine Aj I (Ab fun bn ar => Bs I aq (jL ?_))
 subst ar
 refine Ai (fun s ob => ∃ (O : Int), La.J4 O = some S ∧ s = [(7, .V O)] ∧ ob = [O1 i [Aa b], O0 j [Al g], U1 n a.2, U0 e a.1]) (K6 2 3 5 6 20 21) J6 ?_ ?_
 refine jM (Aj I (Ab fun bo au => ?_))
 obtain ⟨P, ⟨av, W⟩, h⟩ := Bh h
 refine jG (Af 2 I (jR (Be 2 (m := P.1) I I I I I I I av (Ag W)) I (jR (A7 2 P.1 0 I I I (Ag W) I (y := .v (.bool P.2)) I) I (Af 2 I (jH ?_)))))
 subst au
 refine Ai (fun s ob => ∃ (B : Bool), La.J5 u p B = some S ∧ s = [(9, .v (.bool B))] ∧ ob = [O1 i [Aa b], O0 j [Al g], U1 n a.2, U0 e a.1]) (K8 2 3 5 6 7 8 20 21) J8 ?_ ?_
 refine Bd [.o 1 0, .l 2 (b.Segments.length : Int)] I ⟨As, I, J⟩ (jM (Ca 30 I fun aw => ?_))
 obtain ⟨bp, ax, ay⟩ := Ac h
 refine C1 ax (iL 2 3 5 6 7 8 20 21 30 31) iJ (fun (H : Nat) (w : Bool) s ob => s = [(32, .V (H : Int)), (9, .v (.bool w))] ∧ ob = [O1 i [Aa b], O0 j [Al g], U1 n a.2, U0 e a.1]) ⟨I, I⟩ ⟨I, I, J⟩ (pk N4) ?_ ?_
 rintro H K w az s ob a0 X ⟨rfl, rfl⟩ h
 unfold La.B6 at h
 have a1 := Cy X
 refine Aj I (Ab fun bq a2 => Bs I a1 (jL ?_))
 subst a2
 refine Ai (fun s ob => ∃ (Q : Bool), La.J7 Q = some az ∧ s = [(9, .v (.bool Q))] ∧ ob = [O1 i [Aa b], O0 j [Al g], U1 n a.2, U0 e a.1]) [(2, _), (3, _), (5, _), (6, _), (7, _), (8, _), (20, _), (21, _), (30, _), (31, _), (32, _)] iI ?_ ?_
 refine jM (Ab fun br a3 => jG (Ao 3 [.x 1 H (Am K)] I ⟨⟨I, Ag a0⟩, J⟩ (jI [] I (Bf W1 7 fun bs => Af 1 I (jI [4] I (A1 4 0 0 [Am K] I (jH ?_)))))))
 subst a3
 refine Ab fun bu a4 => ?_
 obtain ⟨A, ⟨Y, Z⟩, h⟩ := Bh h
 refine Mo [.o 1 1, .x 3 A.1 (rI A.2)] I ⟨⟨Y, Ag Z⟩, I, J⟩ ?_
 subst a4
 refine Ar h I ?_ ?_
 intro a5 h
 refine Ab fun bv a6 => jT (pd 12 0 [6]) [4, 1] [_, _] I (Bx 6 [.o 0 0, .o 2 1, .x 4 A.1 (rI A.2)] I ⟨⟨Y, Ag Z⟩, I, I, J⟩ (kC I (Qs K A.2 _ I) (Ax 5 I (Ap (jH ?_)))))
 subst a6
 refine jG (Af 2 I ?_)
 rcases bt (w) with D | D
 have h := Bp D h
 refine Ad 54 I D ?_
 rcases bt ((((Hj K A.2).2) != (u : Int))) with E | E
 have h := Bp E h
 exact Af 4 I (Ad 58 I E (Af 7 I (jH (lg ⟨true, h, I2⟩ N4))))
 have h := Bq E h
 obtain ⟨M, ⟨a7, aa⟩, h⟩ := Bh h
 exact Af 4 I (Ad 58 I E (Af 2 I (A3 I I I (jR (Be 2 (m := M.1) I I I I I I I a7 (Ag aa)) I (A3 I I I (jR (A7 2 M.1 0 I I I (Ag aa) I (y := .v (.bool M.2)) I) I (Af 3 I (jH (lg ⟨M.2, h, I2⟩ N4)))))))))
 have h := Bq D h
 exact Ad 54 I D (Af 4 I (E6 I I dS (E6 I I dS (E6 I I dS (E6 I I dS (Af 3 I (jH (lg ⟨false, h, I2⟩ N4))))))))
 intro a5 h
 exact jL (lg ⟨w, h, I2⟩ N4)
 rintro s ob ⟨Q, h, rfl, rfl⟩
 unfold La.J7 at h
 refine jG (Ao 2 [.k 0 (H + 1 : Nat)] I ⟨Ay X aw, J⟩ ?_)
 cases io h
 exact jH (lg I2 N4)
 rintro w s ob ⟨rfl, rfl⟩ he
 subst he
 have h := ay
 have a8 := Cz b.Segments.length
 exact Aj I (Ab fun bw bx => Bu I a8 (jP (lg ⟨w, h, I2⟩ N4)))
 rintro s ob ⟨B, h, rfl, rfl⟩
 unfold La.J5 at h
 refine Dv 70 (B && decide (p < 0)) ?_ ?_
 refine jG (Af 2 I ?_)
 rcases bt (B) with F | F
 exact Ad 67 I F (Af 3 I (jH (jf (by simp only [F, bz]) I I I2)))
 exact Ad 67 I F (Af 3 I (jH (jf (by simp only [F, bz]) I I I2)))
 refine Ar h I ?_ ?_
 intro a9 h
 exact Sm I (lg ⟨(u : Int), h, I2⟩ N4)
 intro a9 h
 exact jL (lg ⟨p, h, I2⟩ N4)
 rintro s ob ⟨O, h, rfl, rfl⟩
 unfold La.J4 at h
 refine jG (Ao 2 [.k 0 (u + 1 : Nat)] I ⟨Ay U am, J⟩ ?_)
 cases io h
 exact jH (lg I2 N4)
 rintro p s ob ⟨rfl, rfl⟩ he
 subst he
 have h := ao
 have ba := Cz b.Nodes.length
 exact Aj I (Ab fun b0 b1 => Bu I ba (jP (lg ⟨p, h, I2⟩ N4)))
 rintro s ob ⟨G, h, rfl, rfl⟩
 refine jK (Aj I (Ar h I ?_ ?_))
 intro bb h
 refine Aj I ?_
 obtain rfl := al _ (oi h).symm
 have h := aj
 refine C9 [3] I ?_
 obtain rfl := oi h
 exact jN ⟨.inr I, [_], [U0 e a.1], J1, Cx I (Ct), ⟨e, I2⟩⟩
 intro bb h
 refine jL (jK ?_)
 obtain ⟨b4, bc, h⟩ := Ac h
 refine jG (Af 2 I (jI [] I (jQ 1 (([G] : Li).map rI) (jI [3] I (jV 3 I bc fun bd => Af 1 I (jH ?_))))))
 obtain ⟨ab, ⟨be, ac⟩, h⟩ := Bh h
 refine jG (Af 2 I (jR (Be 2 (m := ab.1) I I I I I I I be (Ag ac)) I (jI [2] I (Ck 2 ab.1 0 I I I (Ag ac) I I I I (A6 I) I (Dp (x := true) I) ?_))))
 cases io h
 exact jH ⟨_, _, _, I, ⟨bd, I2⟩, J4, pk N4⟩
theorem Qe (b : Nw) (a : Plan) (r : Int) (h : Kt b a = some r) : ACalls Ah 45 [.agg (Aa b), .agg (Al a)] [] (RV (.V r)) := by
 refine Ae Tryz.func45 I I I fun C hC => ?_
 refine Ab fun y1 Q => jG (jI [] I (Br (Aa b) 6 fun d => jI [] I (Br (Al a) 3 fun e => Af 1 I (jH ?_))))
 subst Q
 refine Ab fun y4 R => jK ?_
 obtain ⟨r5, S, h⟩ := Ac h
 refine jG (Ao 1 [.o 0 0] I J1 (jU (Za _ _ S) (Af 1 I (jH (Aj I (Ar h I ?_ ?_))))))
 intro U h
 refine Aj I (jO g0 ?_)
 cases io h
 exact jN pr
 intro U h
 refine jL ?_
 subst R
 refine Ab fun y8 W => Dv 43 (((a.Rates.length : Int) != (b.Segments.length : Int)) || (((a.Ports.length : Int) != (b.Ports.length : Int)) || ((a.Pumps.length : Int) != (b.Stations.length : Int)))) ?_ ?_
 refine jG (Ao 8 [.o 1 1, .l 2 (a.Rates.length : Int), .o 4 0, .l 5 (b.Segments.length : Int)] I ⟨As, I, As, I, J⟩ ?_)
 rcases bt (((a.Rates.length : Int) != (b.Segments.length : Int))) with f | f
 exact Ad 26 I f (Af 17 I (jH (jf (by simp only [f, bz]) I I I2)))
 refine Ad 26 I f (Ao 9 [.o 1 1, .l 2 (a.Ports.length : Int), .o 4 0, .l 5 (b.Ports.length : Int)] I ⟨As, I, As, I, J⟩ ?_)
 rcases bt (((a.Ports.length : Int) != (b.Ports.length : Int))) with g | g
 exact Ad 35 I g (Af 8 I (jH (jf (by simp only [f, g, bz]) I I I2)))
 exact Ad 35 I g (Ao 8 [.o 1 1, .l 2 (a.Pumps.length : Int), .o 4 0, .l 5 (b.Stations.length : Int)] I ⟨As, I, As, I, J⟩ (jH (jf (by simp only [f, g, bz]) I I I2)))
 refine Ar h I ?_ ?_
 intro X h
 refine Aj I (jO g0 ?_)
 cases io h
 exact jN pr
 intro X h
 refine jL ?_
 subst W
 refine Ai (fun s ob => ∃ (A : Unit), Kt.J1 b a A = some r ∧ s = [] ∧ ob = [O1 d [Aa b], O0 e [Al a]]) (K2 2 3) J2 ?_ ?_
 refine Bd [.o 1 1, .l 2 (a.Rates.length : Int)] I ⟨As, I, J⟩ (jM (Ca 45 I fun Y => ?_))
 obtain ⟨a7, Z, B⟩ := Ac h
 refine Bw Z (K4 2 3 45 46) J4 (fun (p : Nat) (D : Unit) s ob => s = [(47, .V (p : Int))] ∧ ob = [O1 d [Aa b], O0 e [Al a]]) ⟨I, I⟩ ⟨I, J⟩ (pk [0, 1]) ?_ ?_
 rintro p t D a8 s ob aa E ⟨rfl, rfl⟩ h ab
 have ac := Cy E
 refine Aj I (Ab fun a9 ad => Bs I ac (jL ?_))
 subst ad
 refine jK (jM (Bd [.x 1 p (rI t)] I ⟨⟨I, Ag aa⟩, J⟩ (Ab fun ba ae => ?_)))
 obtain ⟨i, ⟨af, ag⟩, h⟩ := Bh h
 refine Mo [.o 1 0, .x 3 i.1 (Am i.2)] I ⟨⟨af, Ag ag⟩, I, J⟩ ?_
 subst ae
 refine Dv 67 (decide (t < (wr (0 - (min 1000 i.2.Capacity)))) || decide (t > (min 1000 i.2.Capacity))) ?_ ?_
 refine jG (Af 5 I ?_)
 rcases bt (decide (t < (wr (0 - (min 1000 i.2.Capacity))))) with j | j
 exact Ad 63 I j (Af 4 I (jH (jf (by simp only [j, bz]) I I I2)))
 exact Ad 63 I j (Af 4 I (jH (jf (by simp only [j, bz]) I I I2)))
 refine Ar h I ?_ ?_
 intro ah h
 refine Aj I ?_
 obtain rfl := ab _ (oi h).symm
 have h := B
 have h := Db h
 refine jO g0 ?_
 cases io h
 exact jN pr
 intro ah h
 refine jL (jG (Ao 2 [.k 0 (p + 1 : Nat)] I ⟨Ay E Y, J⟩ ?_))
 cases io h
 exact jH ⟨_, _, _, I, I2, J5, pk [0, 1]⟩
 rintro D s ob ⟨rfl, rfl⟩ he
 subst he
 have h := De B
 have ai := Cz a.Rates.length
 exact Aj I (Ab fun bb bc => Bu I ai (jP (lg ⟨(), h, I2⟩ [0, 1])))
 rintro s ob ⟨A, h, rfl, rfl⟩
 unfold Kt.J1 at h
 refine Ai (fun s ob => ∃ (F : Unit), Kt.J2 b a F = some r ∧ s = [] ∧ ob = [O1 d [Aa b], O0 e [Al a]]) (K2 2 3) J2 ?_ ?_
 refine Bd [.o 1 1, .l 2 (a.Ports.length : Int)] I ⟨As, I, J⟩ (jM (Ca 70 I fun aj => ?_))
 obtain ⟨bd, ak, G⟩ := Ac h
 refine Bw ak (K4 2 3 70 71) J4 (fun (u : Nat) (H : Unit) s ob => s = [(72, .V (u : Int))] ∧ ob = [O1 d [Aa b], O0 e [Al a]]) ⟨I, I⟩ ⟨I, J⟩ (pk [0, 1]) ?_ ?_
 rintro u w H be s ob al K ⟨rfl, rfl⟩ h am
 unfold Kt.B5 at h
 have an := Cy K
 refine Aj I (Ab fun bf ao => Bs I an (jL ?_))
 subst ao
 refine jK (jM (Bd [.x 0 u (rI w)] I ⟨⟨I, Ag al⟩, J⟩ (Dv 81 (decide (w < (-1000)) || decide (w > 1000)) ?_ ?_)))
 refine jG (Af 3 I ?_)
 rcases bt (decide (w < (-1000))) with n | n
 exact Ad 78 I n (Af 3 I (jH (jf (by simp only [n, bz]) I I I2)))
 exact Ad 78 I n (Af 3 I (jH (jf (by simp only [n, bz]) I I I2)))
 refine Ar h I ?_ ?_
 intro ap h
 refine Aj I ?_
 obtain rfl := am _ (oi h).symm
 have h := G
 have h := Db h
 refine jO g0 ?_
 cases io h
 exact jN pr
 intro ap h
 refine jL (jG (Ao 2 [.k 0 (u + 1 : Nat)] I ⟨Ay K aj, J⟩ ?_))
 cases io h
 exact jH ⟨_, _, _, I, I2, J5, pk [0, 1]⟩
 rintro H s ob ⟨rfl, rfl⟩ he
 subst he
 have h := De G
 have aq := Cz a.Ports.length
 exact Aj I (Ab fun bg bh => Bu I aq (jP (lg ⟨(), h, I2⟩ [0, 1])))
 rintro s ob ⟨F, h, rfl, rfl⟩
 unfold Kt.J2 at h
 refine Ai (fun s ob => ∃ (M : Unit), Kt.J3 b a M = some r ∧ s = [] ∧ ob = [O1 d [Aa b], O0 e [Al a]]) (K2 2 3) J2 ?_ ?_
 refine Bd [.o 1 0, .l 2 (b.Nodes.length : Int)] I ⟨As, I, J⟩ (jM (Ca 84 I fun ar => ?_))
 obtain ⟨bi, au, N⟩ := Ac h
 refine Bw au (K3 2 3 85) J3 (fun (y : Nat) (O : Unit) s ob => s = [(86, .V (y : Int))] ∧ ob = [O1 d [Aa b], O0 e [Al a]]) ⟨I, I⟩ ⟨I, J⟩ (pk [0, 1]) ?_ ?_
 rintro y bj O bk s ob bl P ⟨rfl, rfl⟩ h av
 have aw := Cy P
 refine Aj I (Ab fun bm ax => Bs I aw (jL ?_))
 subst ax
 refine jK (jM (Aj I (jK ?_)))
 obtain ⟨bn, ay, h⟩ := Ac h
 refine jG (Ao 3 [.o 0 0, .o 1 1] I J2 (jU (Qr _ _ _ _ ay) (Af 5 I (jH (Aj I (Ar h I ?_ ?_))))))
 intro az h
 refine Aj I ?_
 obtain rfl := av _ (oi h).symm
 have h := N
 have h := Db h
 refine jO g0 ?_
 cases io h
 exact jN pr
 intro az h
 refine jL (jG (Ao 2 [.k 0 (y + 1 : Nat)] I ⟨Ay P ar, J⟩ ?_))
 cases io h
 exact jH ⟨_, _, _, I, I2, J4, pk [0, 1]⟩
 rintro O s ob ⟨rfl, rfl⟩ he
 subst he
 have h := De N
 have a0 := Cz b.Nodes.length
 exact Aj I (Ab fun bo bp => Bu I a0 (jP (lg ⟨(), h, I2⟩ [0, 1])))
 rintro s ob ⟨M, h, rfl, rfl⟩
 refine jK (jK ?_)
 obtain ⟨bq, a1, h⟩ := Ac h
 refine jT (.still 0 (.still 1 (sl 3 4 (.act 2 (.act 3 (.still 7 .nil)))))) [0, 1] [_, _] I (Bx 5 [.o 0 0, .o 1 1, .o 3 0, .l 4 (b.Nodes.length : Int)] I ⟨As, I, I, I, J⟩ (jJ [] I I I (Cq I I I (Zx _ _ _ a1) dS ?_)))
 rintro _ _ ⟨br, rfl, rfl⟩
 refine jJ [] I I I (Bm (Cp 2 I I I I) dS (Ax 1 I (Ap (jH (Ar h I ?_ ?_)))))
 intro a2 h
 refine Aj I (jO g0 ?_)
 cases io h
 exact jN pr
 intro a2 h
 refine jL (Aj I (jO g0 ?_))
 cases io h
 exact jN pr
theorem Lq (a : Li) (b : Li) (r : Bool) (h : Kx a b = some r) : ACalls Ah 31 [Q0 a, Q0 b] [] (RB r) := by
 refine Ae Tryz.func31 I I I fun C hC => ?_
 refine Aj I (Ab fun A j => Bd [.l 1 (a.length : Int), .l 3 (b.length : Int)] I ⟨As, As, J⟩ (Ar h I ?_ ?_))
 intro k h
 refine Aj I ?_
 cases io h
 exact jN pr
 intro k h
 refine jL ?_
 subst j
 refine Ai (fun s ob => ∃ (c : Unit), Kx.J1 c = some r ∧ s = [] ∧ ob = []) [] J ?_ ?_
 refine Aj I (jM ?_)
 obtain ⟨B, m, d⟩ := Ac h
 refine Cg m (K2 0 1) J2 (fun (e : Int) s ob => s = [(5, .V e)] ∧ ob = []) ⟨I, I⟩ ⟨I, J⟩ (pk []) ?_
 rintro e D s ob ⟨rfl, rfl⟩ h f
 refine Ab fun E n => Bd [.l 2 (a.length : Int)] I ⟨As, J⟩ (Ar h I ?_ ?_)
 intro o h
 refine jL ?_
 subst n
 refine jK (jM (jK ?_))
 obtain ⟨g, ⟨p, t⟩, h⟩ := Bh h
 obtain ⟨i, ⟨u, w⟩, h⟩ := Bh h
 refine Su (pd 9 0 []) [] [] [.x 2 g.1 (rI g.2), .x 6 i.1 (rI i.2)] I I ⟨⟨u, Ag w⟩, ⟨p, Ag t⟩, J⟩ (Ar h I ?_ ?_)
 intro y h
 refine Aj I ?_
 obtain rfl := f _ (oi h).symm
 have h := d
 have h := De h
 cases io h
 exact jN pr
 intro y h
 refine jL (jG (Af 3 I ?_))
 cases io h
 exact jH ⟨_, _, _, I, I2, J3, pk []⟩
 intro o h
 obtain rfl := f _ (oi h).symm
 have h := d
 have h := Db h
 exact jP (lg ⟨(), h, I2⟩ [])
 rintro s ob ⟨c, h, rfl, rfl⟩
 unfold Kx.J1 at h
 refine Aj I ?_
 cases io h
 exact jN pr
theorem X9 (a : List Bool) (b : List Bool) (r : Bool) (h : Mx a b = some r) : ACalls Ah 104 [Q5 a, Q5 b] [] (RB r) := by
 refine Ae Tryz.func104 I I I fun C hC => ?_
 refine Aj I (Ab fun A j => Bd [.l 1 (a.length : Int), .l 3 (b.length : Int)] I ⟨As, As, J⟩ (Ar h I ?_ ?_))
 intro k h
 refine Aj I ?_
 cases io h
 exact jN pr
 intro k h
 refine jL ?_
 subst j
 refine Ai (fun s ob => ∃ (c : Unit), Mx.J1 c = some r ∧ s = [] ∧ ob = []) [] J ?_ ?_
 refine Aj I (jM ?_)
 obtain ⟨B, m, d⟩ := Ac h
 refine Cg m (K2 0 1) J2 (fun (e : Int) s ob => s = [(5, .V e)] ∧ ob = []) ⟨I, I⟩ ⟨I, J⟩ (pk []) ?_
 rintro e D s ob ⟨rfl, rfl⟩ h f
 refine Ab fun E n => Bd [.l 2 (a.length : Int)] I ⟨As, J⟩ (Ar h I ?_ ?_)
 intro o h
 refine jL ?_
 subst n
 refine jK (jM (jK ?_))
 obtain ⟨g, ⟨p, t⟩, h⟩ := Bh h
 obtain ⟨i, ⟨u, w⟩, h⟩ := Bh h
 refine jT (pd 9 0 []) [] [] I (Bx 8 [.x 2 g.1 (rB g.2), .x 6 i.1 (rB i.2)] I ⟨⟨u, Ag w⟩, ⟨p, Ag t⟩, J⟩ (jZ I (Wf I I I I) I (Ap (jH (Ar h I ?_ ?_)))))
 intro y h
 refine Aj I ?_
 obtain rfl := f _ (oi h).symm
 have h := d
 have h := De h
 cases io h
 exact jN pr
 intro y h
 refine jL (jG (Af 3 I ?_))
 cases io h
 exact jH ⟨_, _, _, I, I2, J3, pk []⟩
 intro o h
 obtain rfl := f _ (oi h).symm
 have h := d
 have h := Db h
 exact jP (lg ⟨(), h, I2⟩ [])
 rintro s ob ⟨c, h, rfl, rfl⟩
 unfold Mx.J1 at h
 refine Aj I ?_
 cases io h
 exact jN pr
theorem Yh (d : Plan) (e : Plan) (r : Bool) (h : M0 d e = some r) : ACalls Ah 42 [.agg (Al d), .agg (Al e)] [] (RB r) := by
 refine Ae Tryz.func42 I I I fun C hC => ?_
 unfold M0 at h
 refine Ab fun t i => jG (jI [] I (Br (Al d) 3 fun u => jI [] I (Br (Al e) 3 fun w => Af 1 I (jH ?_))))
 subst i
 refine Ai (fun s ob => ∃ (f : Bool), M0.J1 f = some r ∧ s = [(4, .v (.bool f))] ∧ ob = []) [] J ?_ ?_
 obtain ⟨j, k, h⟩ := Ac h
 refine jG (Ao 4 [.o 1 0, .o 3 1] I J2 (jU (Lq _ _ _ k) (Af 1 I ?_)))
 rcases bt (j) with a | a
 have h := Bp a h
 obtain ⟨l, g, h⟩ := Ac h
 refine Ad 10 I a ?_
 rcases bt (l) with b | b
 have h := Bp b h
 obtain ⟨n, p, h⟩ := Ac h
 exact Ao 4 [.o 1 0, .o 3 1] I J2 (A3 I I I (jU (Lq _ _ _ g) (Af 2 I (Ad 17 I b (Ao 4 [.o 1 0, .o 3 1] I J2 (A3 I I I (jU (X9 _ _ _ p) (Af 2 I (jH (lg ⟨n, h, I2⟩ []))))))))))
 have h := Bq b h
 exact Ao 4 [.o 1 0, .o 3 1] I J2 (A3 I I I (jU (Lq _ _ _ g) (Af 2 I (Ad 17 I b (Af 7 I (jH (lg ⟨false, h, I2⟩ [])))))))
 have h := Bq a h
 exact Ad 10 I a (Af 14 I (jH (lg ⟨false, h, I2⟩ [])))
 rintro s ob ⟨f, h, rfl, rfl⟩
 unfold M0.J1 at h
 cases io h
 exact jN pr
theorem Zq (a : Nw) (e : Plan) (b : Int) (r : Int × Int) (h : Rw a e b = some r) : ACalls Ah 156 [.agg (Aa a), .agg (Al e), .V b] [] (RV (.tup [.V r.1, .V r.2])) := by
 refine Ae Tryz.func156 I I I fun C hC => ?_
 refine Ab fun s f => jG (jI [] I (Br (Aa a) 6 fun t => jI [] I (Br (Al e) 3 fun u => Af 2 I (jH ?_))))
 subst f
 refine Ab fun v g => jK ?_
 obtain ⟨w, i, h⟩ := Ac h
 refine jG (Ao 2 [.o 0 0, .o 1 1] I J2 (jU (Qe _ _ _ i) (Af 1 I (jH (Aj I (Ar h I ?_ ?_))))))
 intro j h
 refine Aj I (jO g0 ?_)
 cases io h
 exact jN ⟨.inr I, [_, _], [], J2, Ct, I2⟩
 intro j h
 refine jL ?_
 subst g
 refine Ab fun y k => Dv 25 (decide (b < 0) || decide (b ≥ (a.Nodes.length : Int))) ?_ ?_
 refine jG (Af 3 I ?_)
 rcases bt (decide (b < 0)) with d | d
 exact Ad 19 I d (Af 6 I (jH (jf (by simp only [d, bz]) I I I2)))
 exact Ad 19 I d (Ao 6 [.o 2 0, .l 3 (a.Nodes.length : Int)] I ⟨As, I, J⟩ (jH (jf (by simp only [d, bz]) I I I2)))
 refine Ar h I ?_ ?_
 intro n h
 refine Aj I (jO g0 ?_)
 cases io h
 exact jN ⟨.inr I, [_, _], [], J2, Ct, I2⟩
 intro n h
 refine jL ?_
 subst k
 refine jK ?_
 obtain ⟨A, p, h⟩ := Ac h
 refine jG (Ao 3 [.o 0 0, .o 1 1] I J2 (jU (Qr _ _ _ _ p) (Af 5 I (jH (Aj I (jO g0 ?_))))))
 cases io h
 exact jN ⟨.inr I, [_, _], [], J2, Ct, I2⟩
theorem Y5 (a : Li) (r : KS) (h : Rp a = some r) : ACalls Ah 8 [Q0 a] [] (fun x new => ∃ (c : Nat), x = .P c ∧ new = [O2 c [Cd r]]) := by
 refine Ae Tryz.func8 I I I fun C hC => ?_
 refine Aj I (jK ?_)
 obtain ⟨b, e, h⟩ := Ac h
 obtain ⟨f, g, i, j, k, n, o⟩ := Sx e
 refine jG (Ao 4 [.l 2 (a.length : Int)] I ⟨As, J⟩ (Bv (eW f g 0 I I I I I (iO i) ⟨_, _, I, j⟩ I k n o) I (Bv (Bk (l := [Q0 b, .V 0]) Vl I) I (jI [] I (Br [Q0 b, .V 0] 2 fun d => Af 1 I (jH ?_))))))
 obtain rfl := oi h
 exact jN ⟨.inr I, [_], [O2 d [[Q0 b, .V 0]]], J1, Cx I (Ct), ⟨d, I2⟩⟩
theorem Ye (b : Nat) (a : KS) (r : Int × KS) (h : Rg a = some r) : ACalls Ah 55 [.P b] [O2 b [Cd a]] (En 1 fun x os new => x = .V r.1 ∧ os = [O2 b [Cd r.2]] ∧ new = []) := by
 refine Ae Tryz.func55 I I I fun C hC => ?_
 refine Aj I (Ab fun j d => Mp (pd 10 0 []) [0] [_] [.o 3 0, .o 7 0, .l 8 (a.L_.length : Int)] I I ⟨As, I, I, J⟩ (Ar h I ?_ ?_))
 intro e h
 refine Aj I ?_
 obtain rfl := oi h
 exact jN ⟨.inr I, [_], [O2 b [Cd a]], J1, Cx I (Ct), ⟨[O2 b [Cd a]], [], I5⟩⟩
 intro e h
 refine jL ?_
 subst d
 refine Ab fun k f => jG (Ao 7 [.o 3 0] I J1 (jI [0] I (A1 0 0 1 [[Q0 a.L_, .V (wr (a.At + 1))]] I (jH ?_))))
 subst f
 refine jK ?_
 obtain ⟨c, ⟨g, i⟩, h⟩ := Bh h
 refine Su (pd 12 0 []) [0] [_] [.o 3 0, .o 7 0, .x 9 c.1 (rI c.2)] I I ⟨⟨g, Ag i⟩, I, I, J⟩ ?_
 obtain rfl := oi h
 exact jN ⟨.inr I, [_], [O2 b [[Q0 a.L_, .V (wr (a.At + 1))]]], J1, Cx I (Ct), ⟨[O2 b [[Q0 a.L_, .V (wr (a.At + 1))]]], [], I5⟩⟩
theorem Cs (a : Nat) (b : KS) (d : Int) (r : Int × KS) (h : Dq b d = some r) : ACalls Ah 12 [.P a, .V d] [O2 a [Cd b]] (En 1 fun x os new => x = .V r.1 ∧ os = [O2 a [Cd r.2]] ∧ new = []) := by
 refine Ae Tryz.func12 I I I fun C hC => ?_
 refine Aj I (jK ?_)
 obtain ⟨e, f, h⟩ := Ac h
 obtain ⟨i, g, h⟩ := Ac h
 refine jG (Af 1 I (jI [0] I (Av [0] (Ye a _ _ f) ?_)))
 refine Af 1 I (jU (Zu _ _ _ g) (Af 1 I (jH ?_)))
 obtain rfl := oi h
 exact jN ⟨.inr I, [_], [O2 a [Cd e.2]], J1, Cx I (Ct), ⟨[O2 a [Cd e.2]], [], I5⟩⟩
theorem Cj (b : Bt) (a : Int) (r : Bt) (h : It b a = some r) : ACalls Ah 49 [.v (.string b), .V a] [] (RV (.v (.string r))) := by
 refine Ae Tryz.func49 I I I fun C hC => ?_
 refine Aj I (jK ?_)
 obtain ⟨g, d, h⟩ := Ac h
 obtain ⟨i, e, h⟩ := Ac h
 refine jG (Ao 4 [.f 2 (.V (a.tmod 26))] I ⟨Yp.yd (Jg (c := (a.tmod 26)) I I ⟨by decide, I⟩), J⟩ (Bv (bZ (c := IntKind.u8.wrap (wr (97 + (a.tmod 26)))) I I I I I) I (jI [] I (jY (sz := 1) (es := ([IntKind.u8.wrap (wr (97 + (a.tmod 26)))] : Li).map (rK .u8)) I I I I I I I I I I I dS fun j => jI [] I (Z0 0 d I I I I I I I I dS (Bv (cA I I (bR e)) I (Af 1 I (jH (jO g0 ?_)))))))))
 cases io h
 exact jN pr
theorem An (a : Nat) (c : KS) (b : Li) (r : Int × KS) (h : Ed c b = some r) : ACalls Ah 47 [.P a, Q0 b] [O2 a [Cd c]] (En 1 fun x os new => x = .V r.1 ∧ os = [O2 a [Cd r.2]] ∧ new = []) := by
 refine Ae Tryz.func47 I I I fun C hC => ?_
 refine Aj I (jK ?_)
 obtain ⟨d, f, h⟩ := Ac h
 obtain ⟨e, ⟨g, i⟩, h⟩ := Bh h
 refine jG (Ao 4 [.l 3 (b.length : Int)] I ⟨As, J⟩ (jI [0] I (Av [0] (Cs a _ _ _ f) ?_)))
 refine Ao 3 [.x 0 e.1 (rI e.2)] I ⟨⟨g, Ag i⟩, J⟩ (jH ?_)
 obtain rfl := oi h
 exact jN ⟨.inr I, [_], [O2 a [Cd d.2]], J1, Cx I (Ct), ⟨[O2 a [Cd d.2]], [], I5⟩⟩
theorem Ei (a : Nat) (b : KS) (c : Int) (d : Int) (r : Int × KS) (h : F8 b c d = some r) : ACalls Ah 48 [.P a, .V c, .V d] [O2 a [Cd b]] (En 1 fun x os new => x = .V r.1 ∧ os = [O2 a [Cd r.2]] ∧ new = []) := by
 refine Ae Tryz.func48 I I I fun C hC => ?_
 refine Aj I (jK ?_)
 obtain ⟨e, f, h⟩ := Ac h
 refine jG (Af 6 I (jI [0] I (Av [0] (Cs a _ _ _ f) ?_)))
 refine Af 2 I (jH ?_)
 obtain rfl := oi h
 exact jN ⟨.inr I, [_], [O2 a [Cd e.2]], J1, Cx I (Ct), ⟨[O2 a [Cd e.2]], [], I5⟩⟩
theorem Ql (b : Nat) (Y : KS) (S : Int) (F : Int) (G : Int) (r : Sg × KS) (h : Kv Y S F G = some r) : ACalls Ah 50 [.P b, .V S, .V F, .V G] [O2 b [Cd Y]] (En 1 fun x os new => x = .agg (Am r.1) ∧ os = [O2 b [Cd r.2]] ∧ new = []) := by
 refine Ae Tryz.func50 I I I fun C hC => ?_
 unfold Kv at h
 refine Ab fun y1 aj => jG (jI [] I (Bf W1 7 fun y => jH ?_))
 subst aj
 refine Ai (fun s ob => ∃ (a : Li × Int × Int × Int), Kv.J1 S a = some r ∧ s = [(2, .V a.2.2.1), (3, .V a.2.2.2)] ∧ ob = [O2 b [[Q0 a.1, .V a.2.1]], O7 y [W1]]) (K3 0 1 8) J3 ?_ ?_
 refine jK ?_
 obtain ⟨H, ak, h⟩ := Ac h
 refine jG (Af 1 I (jI [0] I (Av [0] (Cs b _ _ _ ak) ?_)))
 refine Af 1 I (jH (Ar h I ?_ ?_))
 intro al h
 exact Sm I (lg ⟨(H.2.L_, H.2.At, G, F), h, I2⟩ [0, 1])
 intro al h
 exact jL (lg ⟨(H.2.L_, H.2.At, F, G), h, I2⟩ [0, 1])
 rintro s ob ⟨a, h, rfl, rfl⟩
 refine Ab fun y7 am => ?_
 obtain ⟨g, an, h⟩ := Ac h
 obtain ⟨e, ao, h⟩ := Ac h
 obtain ⟨i, aq, h⟩ := Ac h
 obtain ⟨j, ar, h⟩ := Ac h
 refine jG (Af 1 I (jU (Cj _ _ _ an) (Af 3 I (jI [] I (jQ 1 (([1, 2, 7, 20, 60, 200, 1000] : Li).map rI) (jI [0] I (Av [0] (An b _ _ _ ao) ?_)))))))
 refine Af 1 I (jI [] I (jQ 1 (([0, 1, 5, 1000] : Li).map rI) (jI [0] I (Av [0] (An b _ _ _ aq) ?_))))
 refine Af 1 I (jI [] I (jQ 1 (([0, 50, 1000, 100000] : Li).map rI) (jI [0] I (Av [0] (An b _ _ _ ar) ?_))))
 refine Bv (Bk (l := [.v (.string g), .V a.2.2.1, .V a.2.2.2, .V e.1, .V i.1, .V j.1, .N]) Ov I) I (jI [] I (Bf W1 7 fun M => jI [2] I (A1 2 0 0 [[.v (.string g), .V a.2.2.1, .V a.2.2.2, .V e.1, .V i.1, .V j.1, .N]] I (jH ?_))))
 subst am
 refine Ab fun bd au => ?_
 obtain ⟨k, av, h⟩ := Ac h
 refine jG (Af 1 I (jI [] I (jQ 1 (([1000000, 6000000, 100000000] : Li).map rI) (jI [0] I (Av [0] (An b _ _ _ av) ?_)))))
 refine Af 1 I (jH ?_)
 subst au
 refine Ab fun be aw => ?_
 obtain ⟨Z, ax, h⟩ := Ac h
 obtain ⟨bf, aa, h⟩ := Ac h
 refine jT (sl 3 0 (.still 4 (.act 3 (.still 5 (.act 6 (.act 7 (.still 8 (.drop 9 .nil)))))))) [2] [_] I (Bx 4 [.o 1 0] I J1 (jJ [0] I I I (Av [0] (Ei b _ _ _ _ ax) ?_)))
 refine Q7 I (Bk (l := [.V 0, .V Z.1, .V k.1]) Ey I) I (jJ [] I I I (jQ 3 (([(⟨0, Z.1, k.1⟩ : Point)] : List Point).map Ce) (jJ [] I I I (Vp I I I I I I I I (AppSrc.list I) (bV (Ge aa).1) (bU (Ge aa).2) dS fun ab => Ax 1 I (jW 3 I fun ay => kA [2] I I I (jS 2 0 6 (es' := [[.v (.string g), .V a.2.2.1, .V a.2.2.2, .V e.1, .V i.1, .V j.1, .v ab]]) I I I I I I (A8 ay) I (A6 I) I I (Ap (jH ?_))))))))
 subst aw
 refine Ai (fun s ob => ∃ (A : Li × Int × (List Point)) (U : Value), Kv.J2 a g e i j k A = some r ∧ s = [] ∧ ob = [O2 b [[Q0 A.1, .V A.2.1]], O7 y [W1], O7 M [[.v (.string g), .V a.2.2.1, .V a.2.2.2, .V e.1, .V i.1, .V j.1, .v U]], U8 U A.2.2]) (K4 0 8 9 10) J4 ?_ ?_
 refine Aj I (jM ?_)
 obtain ⟨bg, az, ac⟩ := Ac h
 refine Cg az (K4 0 8 9 10) J4 (fun (f : Li × Int × (List Point) × Int) s ob => ∃ (n : Value), s = [(11, .V f.2.2.2)] ∧ ob = [O2 b [[Q0 f.1, .V f.2.1]], O7 y [W1], O7 M [[.v (.string g), .V a.2.2.1, .V a.2.2.2, .V e.1, .V i.1, .V j.1, .v n]], U8 n f.2.2.1]) ⟨ab, I2⟩ ⟨I, J⟩ (pk N4) ?_
 rintro f a0 s ob ⟨n, rfl, rfl⟩ h ad
 unfold Kv.B3 at h
 refine Ab fun bh a1 => Ai (fun s ob => ∃ (u : Li × Int × Bool), Kv.J4 e k f u = some a0 ∧ s = [(51, .v (.bool u.2.2))] ∧ ob = [O2 b [[Q0 u.1, .V u.2.1]], O7 y [W1], O7 M [[.v (.string g), .V a.2.2.1, .V a.2.2.2, .V e.1, .V i.1, .V j.1, .v n]], U8 n f.2.2.1]) (K5 0 8 9 10 11) J5 ?_ ?_
 rcases bt (decide ((f.2.2.1.length : Int) < 7)) with B | B
 have h := Bp B h
 obtain ⟨W, a2, h⟩ := Ac h
 refine jG (Ao 2 [.o 1 2] I J1 (jR (Cp 3 I I I I) I (Af 2 I (Ad 47 I B (Af 1 I (A3 I I I (jI [0] I (Av [0] (Cs b _ _ _ a2) ?_))))))))
 exact Af 2 I (jH (lg ⟨(W.2.L_, W.2.At, decide (W.1 > 0)), h, I2⟩ N4))
 have h := Bq B h
 exact jG (Ao 2 [.o 1 2] I J1 (jR (Cp 3 I I I I) I (Af 2 I (Ad 47 I B (Af 4 I (jH (lg ⟨(f.1, f.2.1, false), h, I2⟩ N4)))))))
 rintro s ob ⟨u, h, rfl, rfl⟩
 refine Ar h I ?_ ?_
 intro a3 h
 refine jL ?_
 subst a1
 refine jM (Ab fun bi a4 => ?_)
 obtain ⟨w, a5, h⟩ := Ac h
 refine jG (Af 2 I (jI [0] I (Av [0] (Ei b _ _ _ _ a5) ?_)))
 refine Af 2 I (jH ?_)
 subst a4
 refine Ab fun bj a6 => Bd [.o 2 2] I J1 (Ar h I ?_ ?_)
 intro a7 h
 obtain rfl := ad _ (oi h).symm
 have h := ac
 exact jP (lg ⟨(w.2.L_, w.2.At, f.2.2.1), n, h, I2⟩ N4)
 intro a7 h
 refine jL ?_
 subst a6
 obtain ⟨O, ae, h⟩ := Ac h
 obtain ⟨P, af, h⟩ := Ac h
 obtain ⟨Q, ag, h⟩ := Ac h
 obtain ⟨bk, ah, h⟩ := Ac h
 refine jT (sl 4 0 (.still 5 (.still 9 (.still 10 (.two 4 6 (.act 6 fU) (.act 4 fU)))))) [2] [_] I (Bx 7 [.o 1 0] I J1 (jX ?_ ?_))
 refine jJ [0] I I I (Av [0] (Ei b _ _ _ _ ae) ?_)
 refine jJ [] I I I (jQ 1 (([1, 1, 10] : Li).map rI) (jJ [0] I I I (Av [0] (An b _ _ _ af) ?_)))
 refine Ax 1 I (jJ [0] I I I (Av [0] (Cs b _ _ _ ag) ?_))
 refine Ax 2 I (Q7 I (Bk (l := [.V (wr (f.2.2.2 + w.1)), .V (wr (O.1 * P.1)), .V (wr (k.1 - (wr (Q.1 * 1000))))]) Ey I) I (jJ [] I I I (jQ 3 (([(⟨wr (f.2.2.2 + w.1), wr (O.1 * P.1), wr (k.1 - (wr (Q.1 * 1000)))⟩ : Point)] : List Point).map Ce) (jJ [3] I I I (jV 3 I ah fun D => Ax 1 I (jW 3 I fun X => kA [2] I I I (jS 2 0 6 (es' := [[.v (.string g), .V a.2.2.1, .V a.2.2.2, .V e.1, .V i.1, .V j.1, .v D]]) I I I I I I (A8 X) I (A6 I) I I (Ap ?_))))))))
 cases io h
 exact jH ⟨_, _, _, I, ⟨D, I2⟩, J5, pk N4⟩
 refine jJ [] I I I (jQ 1 (([1, 1, 10] : Li).map rI) (jJ [0] I I I (Av [0] (Ei b _ _ _ _ ae) ?_)))
 refine jJ [0] I I I (Av [0] (An b _ _ _ af) ?_)
 refine Ax 1 I (jJ [0] I I I (Av [0] (Cs b _ _ _ ag) ?_))
 refine Ax 2 I (Q7 I (Bk (l := [.V (wr (f.2.2.2 + w.1)), .V (wr (O.1 * P.1)), .V (wr (k.1 - (wr (Q.1 * 1000))))]) Ey I) I (jJ [] I I I (jQ 3 (([(⟨wr (f.2.2.2 + w.1), wr (O.1 * P.1), wr (k.1 - (wr (Q.1 * 1000)))⟩ : Point)] : List Point).map Ce) (jJ [3] I I I (jV 3 I ah fun D => Ax 1 I (jW 3 I fun X => kA [2] I I I (jS 2 0 6 (es' := [[.v (.string g), .V a.2.2.1, .V a.2.2.2, .V e.1, .V i.1, .V j.1, .v D]]) I I I I I I (A8 X) I (A6 I) I I (Ap ?_))))))))
 cases io h
 exact jH ⟨_, _, _, I, ⟨D, I2⟩, J5, pk N4⟩
 intro a3 h
 obtain rfl := ad _ (oi h).symm
 have h := ac
 exact jP (lg ⟨(u.1, u.2.1, f.2.2.1), n, h, I2⟩ N4)
 rintro s ob ⟨A, U, h, rfl, rfl⟩
 refine jK ?_
 obtain ⟨E, a8, h⟩ := Ac h
 obtain ⟨ai, a9, h⟩ := Ac h
 refine jT (sl 5 0 (.still 6 (.act 5 (.still 7 (.act 8 (.act 9 (.still 10 (.drop 11 .nil)))))))) [2] [_] I (Bx 6 [.o 1 0, .o 3 0] I J2 (jJ [0] I I I (Av [0] (Ei b _ _ _ _ a8) ?_)))
 refine Q7 I (Bk (l := [.V e.1, .V E.1, .V k.1]) Ey I) I (jJ [] I I I (jQ 3 (([(⟨e.1, E.1, k.1⟩ : Point)] : List Point).map Ce) (jJ [3] I I I (jV 3 I a9 fun R => Ax 1 I (jW 3 I fun ba => kA [2] I I I (jS 2 0 6 (es' := [[.v (.string g), .V a.2.2.1, .V a.2.2.2, .V e.1, .V i.1, .V j.1, .v R]]) I I I I I I (A8 ba) I (A6 I) I I (Ap (jH (jK (jG (Ao 1 [.o 0 2] I J1 (jI [1] I (A1 1 0 0 [[.v (.string g), .V a.2.2.1, .V a.2.2.2, .V e.1, .V i.1, .V j.1, .v R]] I (jH ?_))))))))))))))
 refine jO (Ba [3] (K := [U8 R ai]) I [] J (ob' := [O2 b [Cd E.2], O7 y [[.v (.string g), .V a.2.2.1, .V a.2.2.2, .V e.1, .V i.1, .V j.1, .list 3 (ai.map Ce)]], O7 M [[.v (.string g), .V a.2.2.1, .V a.2.2.2, .V e.1, .V i.1, .V j.1, .v R]]]) (.cons (.same _) (.cons (.arr (.cons (.refl _) (.cons (.refl _) (.cons (.refl _) (.cons (.refl _) (.cons (.refl _) (.cons (.refl _) (.cons (.us 0 I) (.rest _))))))))) (.rest _)))) (C9 [0, 1] I ?_)
 obtain rfl := oi h
 exact jN ⟨.inr I, [_], [O2 b [Cd E.2]], ⟨⟨1, _, _, _, _, _, _, _, I5⟩, J⟩, Cx I (Ct), ⟨[O2 b [Cd E.2]], [], I5⟩⟩
end Go.Proofs.YtihdchjpepkpbaaGreat
