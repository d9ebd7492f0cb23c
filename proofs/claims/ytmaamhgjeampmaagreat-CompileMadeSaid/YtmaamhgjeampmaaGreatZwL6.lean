/- Walks that show what functions of the program compute; printed by a program of ours. No condition. -/
import Derived.Test.YtmaamhgjeampmaaGreatZwL2
import Derived.Test.YtmaamhgjeampmaaGreatZwL4
import Derived.Test.YtmaamhgjeampmaaGreatZwL5
import Derived.Test.YtmaamhgjeampmaaGreatZwD
import Derived.Test.YtmaamhgjeampmaaGreatZwB3
import Derived.Test.YtmaamhgjeampmaaGreatZwB2
set_option maxRecDepth 100000
namespace Go.Proofs.YtmaamhgjeampmaaGreat
open Go.Aw
set_option linter.unusedVariables false
set_option linter.unusedSimpArgs false
set_option maxHeartbeats 4000000
abbrev rH : PL := sl 10 0 (.act 10 (.act 11 (.still 12 (.still 13 (.drop 14 .nil)))))
abbrev kC : PL := .act 11 (.still 12 .nil)
abbrev rD : PL := .act 11 (.act 12 (.still 13 (.act 14 .nil)))
theorem gO (a : Valve) (r : Int) (h : Oc a = r) : ACalls Ai 150 [.agg (A5 a)] [] (RV (.V r)) := by
 refine Ag Tryz.func150 I I I fun C hC => ?_
 refine Aa fun l e => vH (vJ [] I (Bh (A5 a) 4 fun f => Af 1 I (vI ?_)))
 subst e
 refine Aa fun n g => vM (vH (Al 1 [.o 0 0] I J1 (vU (Gw a _ I) (Af 1 I (vI (Ao h I ?_ ?_))))))
 intro i h
 refine Aj I (vP g0 ?_)
 obtain rfl := h
 exact vO pr
 intro i h
 refine vL ?_
 subst g
 refine Bl [.o 1 0] I J1 (Ah (fun s ob => ∃ (d : Int), Oc.J1 a d = r ∧ s = [(3, .V d)] ∧ ob = [Yi f [A5 a]]) [(1, _)] J1 ?_ ?_)
 refine Bl [.o 1 0] I J1 (Ao h I ?_ ?_)
 intro j h
 exact Hm [.o 1 0, .o 3 0] I J2 (lg ⟨wr (a.Travel - a.Open), h, I2⟩ [0])
 intro j h
 exact vL (lg ⟨a.Open, h, I2⟩ [0])
 rintro s ob ⟨d, h, rfl, rfl⟩
 unfold Oc.J1 at h
 refine vM (D2 21 (a.Stuck && decide (d > 0)) ?_ ?_)
 refine vH (Al 3 [.o 1 0] I J1 ?_)
 rcases bt (a.Stuck) with b | b
 exact Ad 18 I b (Af 3 I (vI (jf (by simp only [b, bz]) I I I2)))
 exact Ad 18 I b (Af 3 I (vI (jf (by simp only [b, bz]) I I I2)))
 refine Ao h I ?_ ?_
 intro k h
 refine Aj I (vP g0 ?_)
 obtain rfl := h
 exact vO pr
 intro k h
 refine vL (Aj I (vP g0 ?_))
 obtain rfl := h
 exact vO pr
theorem gE (a : Valve) (r : Bool) (h : N1 a = r) : ACalls Ai 120 [.agg (A5 a)] [] (RB r) := by
 refine Ag Tryz.func120 I I I fun C hC => ?_
 unfold N1 at h
 refine vM (vH (vJ [] I (Bh (A5 a) 4 fun d => Af 1 I (vI (Ah (fun s ob => s = [(2, .v (.bool ((Ey a) && (a.Open == 0))))] ∧ ob = []) [] J ?_ ?_)))))
 refine vH (Al 1 [.o 0 0] I J1 (vU (Gw a _ I) (Af 1 I ?_)))
 rcases bt ((Ey a)) with b | b
 refine Ad 5 I b (Al 5 [.o 1 0] I J1 (vI ?_))
 exact lf I2 ⟨(D1 (by simp only [b, bz])), J⟩ [] I
 refine Ad 5 I b (Af 5 I (vI ?_))
 exact lf I2 ⟨(D1 (by simp only [b, bz])), J⟩ [] I
 rintro s ob ⟨rfl, rfl⟩
 obtain rfl := h
 exact vO pr
theorem Wd (b : List Path) (a : Path) (r : Int) (h : R8 b a = some r) : ACalls Ai 119 [Q6 b, .agg (Az a)] [] (RV (.V r)) := by
 refine Ag Tryz.func119 I I I fun C hC => ?_
 refine Aa fun l e => vH (vJ [] I (Bh (Az a) 4 fun n => Af 1 I (vI ?_)))
 subst e
 refine vM (Aa fun p f => ?_)
 obtain ⟨s, g, h⟩ := Ac h
 refine vH (Al 2 [.o 1 0] I J1 (vU (Wh _ _ _ g) (Af 1 I (vI ?_))))
 subst f
 refine Aj I (Ao h I ?_ ?_)
 intro i h
 refine vM ?_
 obtain ⟨d, ⟨j, k⟩, h⟩ := Ba h
 refine Hm [.x 2 d.1 (Az d.2)] I ⟨⟨j, Ae k⟩, J⟩ (vP g0 ?_)
 cases io h
 exact vO pr
 intro i h
 refine vL (Aj I (vP g0 ?_))
 cases io h
 exact vO pr
theorem V6 (a : Nw) (w : List Path) (n : Int) (r : Bool) (h : Iu a w n = some r) : ACalls Ai 79 [.agg (Ab a), Q6 w, .V n] [] (RB r) := by
 refine Ag Tryz.func79 I I I fun C hC => ?_
 unfold Iu at h
 refine Aa fun H D => vH (vJ [] I (Bh (Ab a) 6 fun i => Af 1 I (vI ?_)))
 subst D
 refine Ah (fun s ob => ∃ (j : Plan × Int) (p : Nat), Iu.J1 a n j = some r ∧ s = [(7, .P p), (8, .V j.2)] ∧ ob = [O0 i [Ab a], O1 p [Ak j.1]]) (K2 2 3) J2 ?_ ?_
 obtain ⟨e, ⟨M, y, A, B⟩, h⟩ := Fo h
 obtain ⟨b, t, h⟩ := Ac h
 refine Bi (sl 5 0 (.two 5 10 (.two 6 10 (sl 3 7 (.act 10 kC)) (.act 6 (sl 3 7 kC))) (.act 5 (.act 6 (sl 3 7 kC))))) [0] [_] I (Br 5 [.o 0 0, .o 3 0, .l 4 (a.Stations.length : Int)] I ⟨A8, I, I, J⟩ (vY ?_ ?_))
 refine vK [] I I I (Dq (sz := 1) I I I I I I I I I I y A (D5 (f := rB) B I) dS fun k => vY ?_ ?_)
 refine Gx (Av [1] (K := [U1 k e]) I [(16, Q2 e)] ⟨⟨_, I, .us 0 I⟩, J⟩ (ob' := [O0 i [Ab a]]) (.rest _)) I (vK [] I I I (Bp I I I (Pr _ _ _ _ t) dS ?_))
 rintro _ _ ⟨rfl, rfl⟩
 exact A9 3 I (vK [] I I I (Bm W0 3 fun d => vK [1] I I I (A3 1 0 0 [Ak b.1] I (A9 1 I (An (vI (lg ⟨(b.1, b.2), d, h, I2⟩ [0, 1])))))))
 refine vK [] I I I (Bm W0 3 fun d => Gx (Av [1] (K := [U1 k e]) I [(16, Q2 e)] ⟨⟨_, I, .us 0 I⟩, J⟩ (ob' := [O0 i [Ab a], O1 d [W0]]) (.rest _)) I (vK [] I I I (Bp I I I (Pr _ _ _ _ t) dS ?_)))
 rintro _ _ ⟨rfl, rfl⟩
 exact A9 3 I (vK [1] I I I (A3 1 0 0 [Ak b.1] I (A9 1 I (An (vI (lg ⟨(b.1, b.2), d, h, I2⟩ [0, 1]))))))
 refine vK [] I I I (Bm W0 3 fun d => vK [] I I I (Dq (sz := 1) I I I I I I I I I I y A (D5 (f := rB) B I) dS fun k => Gx (Av [2] (K := [U1 k e]) I [(16, Q2 e)] ⟨⟨_, I, .us 0 I⟩, J⟩ (ob' := [O0 i [Ab a], O1 d [W0]]) (.rest _)) I (vK [] I I I (Bp I I I (Pr _ _ _ _ t) dS ?_))))
 rintro _ _ ⟨rfl, rfl⟩
 exact A9 3 I (vK [1] I I I (A3 1 0 0 [Ak b.1] I (A9 1 I (An (vI (lg ⟨(b.1, b.2), d, h, I2⟩ [0, 1]))))))
 rintro s ob ⟨j, p, h, rfl, rfl⟩
 refine Aa fun O E => Aj I (Ao h I ?_ ?_)
 intro F h
 refine Aj I (vP g0 ?_)
 cases io h
 exact vO pr
 intro F h
 refine vL ?_
 subst E
 refine vM ?_
 obtain ⟨u, G, h⟩ := Ac h
 refine vH (Al 3 [.o 0 0, .o 1 1] I J2 (vU (Px _ _ _ _ G) (Af 5 I (vI (D2 6 ((u.2 == 0) && decide (u.1 > 0)) ?_ ?_)))))
 refine vH (Af 3 I ?_)
 rcases bt ((u.2 == 0)) with g | g
 exact Ad 31 I g (Af 4 I (vI (jf (by simp only [g, bz]) I I I2)))
 exact Ad 31 I g (Af 4 I (vI (jf (by simp only [g, bz]) I I I2)))
 refine vP g0 ?_
 cases io h
 exact vO pr
theorem Vi (f : Nat) (b : batchlineref27_maker) (w0_0 : Value) (w0_1 : Value) (u : Int) (r : batchlineref27_maker) (h : Re b u = some r) : ACalls Ai 149 [.P f, .V u] [O5 f [[.v w0_0, .v w0_1, .V b.rest]], U2 w0_0 b.steps, U4 w0_1 b.valves] (E7 3 fun x os new => ∃ (u0_0 : Value) (u0_1 : Value), x = .tup [] ∧ os = [O5 f [[.v u0_0, .v u0_1, .V r.rest]], U2 u0_0 r.steps, U4 u0_1 r.valves] ∧ new = []) := by
 refine Ag Tryz.func149 I I I fun C hC => ?_
 refine vN ?_
 obtain ⟨aa, A, B⟩ := Ac h
 refine Bo A [(0, _)] J1 (fun (a : (List Step) × (List Valve) × Int) s ob => ∃ (e : Value), s = [(1, .V a.2.2)] ∧ ob = [O5 f [[.v e, .v w0_1, .V b.rest]], U2 e a.1, U4 w0_1 a.2.1]) ⟨w0_0, I2⟩ ⟨I, J⟩ (pk N3) ?_
 rintro a D s ob ⟨e, rfl, rfl⟩ h E
 refine Aa fun ab F => Aj I (Ao h I ?_ ?_)
 intro G h
 refine vL ?_
 subst F
 refine vN (Aj I (Aa fun ac H => ?_))
 obtain ⟨n, M, h⟩ := Ac h
 refine vH (Al 6 [.o 4 0] I J1 (Ch (Bd (l := [.V 6, .V 0, .V (min a.2.2 100), .V 0, .V 0, .N, .V 0]) Ec I) I (wD (Av [] (K := []) I [(16, .agg [.V 6, .V 0, .V (min a.2.2 100), .V 0, .V 0, .list 2 ([].map Cb), .V 0])] ⟨⟨_, I, .agg (.cons (.refl _) (.cons (.refl _) (.cons (.refl _) (.cons (.refl _) (.cons (.refl _) (.cons (.nil _) (.rest _)))))))⟩, J⟩ (ob' := [O5 f [[.v e, .v w0_1, .V b.rest]], U2 e a.1, U4 w0_1 a.2.1]) (.rest _)) (vJ [] I (vR 7 (([(⟨6, 0, (min a.2.2 100), (⟨0, 0, [], 0⟩ : Path)⟩ : Step)] : List Step).map Cg) (vJ [1] I (vV 1 I M fun i => Af 2 I (wC 1 I fun O => vJ [0] I (vT 0 0 0 (es' := [[.v i, .v w0_1, .V b.rest]]) I I I I I I (A6 O) I (A4 I) I I (vI ?_))))))))))
 subst H
 refine Ah (fun s ob => ∃ (t : List Valve), Re.J2 a n t = some D ∧ s = [] ∧ ob = [O5 f [[.v i, .v w0_1, .V b.rest]], U2 i n, U4 w0_1 t]) (K3 0 1 4) J3 ?_ ?_
 refine Aj I (vN ?_)
 obtain ⟨ad, P, Q⟩ := Ac h
 refine Bo P (K3 0 1 4) J3 (fun (k : (List Valve) × Int) s ob => s = [(5, .V k.2)] ∧ ob = [O5 f [[.v i, .v w0_1, .V b.rest]], U2 i n, U4 w0_1 k.1]) ⟨I, I⟩ ⟨I, J⟩ (pk N3) ?_
 rintro k ae s ob ⟨rfl, rfl⟩ h R
 refine Aa fun af S => vM (vH (Al 5 [.o 4 0] I J1 (vS (By 2 I I I I) I (Af 1 I (vI (Ao h I ?_ ?_))))))
 intro U h
 refine vL ?_
 subst S
 refine vM (vN ?_)
 obtain ⟨g, ⟨w, j⟩, h⟩ := Ba h
 obtain ⟨W, X, h⟩ := Ac h
 refine Bw 2 g.1 I j fun Y => Bw 2 g.1 I j fun Z => Bi (sl 11 0 (.still 12 (.act 11 (.act 13 (sl 4 14 (.act 18 .nil)))))) [0] [_] I (Br 10 [.o 3 0, .o 8 0] I J2 (vX I (Aq (m := g.1) I I I I I Y I w j) I (A9 1 I (vK [] I I I (Ay (Au 2 g.1 0 I I I (Ae j) I (y := .agg (A5 g.2)) I) dS (wE I (jB _ _ _ X) (A9 3 I (vX I (Aq (m := g.1) I I I I I Z I w j) I (vK [2] I I I (Bg 2 g.1 0 I I I (Ae j) I I I I (A4 I) I (Ci (x := W.1) I) (An (vI ?_))))))))))))
 refine vH (Af 3 I ?_)
 cases io h
 exact vI ⟨_, _, _, I, I2, J4, pk N3⟩
 intro U h
 obtain rfl := R _ (oi h).symm
 have h := Q
 exact vQ (lg ⟨k.1, h, I2⟩ N3)
 rintro s ob ⟨t, h, rfl, rfl⟩
 unfold Re.J2 at h
 refine vH (Af 4 I ?_)
 cases io h
 exact vI ⟨_, _, _, I, ⟨i, I2⟩, J2, pk N3⟩
 intro G h
 obtain rfl := E _ (oi h).symm
 have h := B
 cases io h
 refine vQ ?_
 exact ⟨.inl I, [], [O5 f [[.v e, .v w0_1, .V b.rest]], U2 e a.1, U4 w0_1 a.2.1], J, Cy I (Cy I (Cy I (Cf))), ⟨[O5 f [[.v e, .v w0_1, .V b.rest]], U2 e a.1, U4 w0_1 a.2.1], [], I, I, e, w0_1, I3⟩⟩
theorem Vq (d : Nat) (i : batchlineref27_maker) (w0_0 : Value) (w0_1 : Value) (k : Path) (n : Int) (j : Int) (f : Int) (r : batchlineref27_maker) (h : Rh i k n j f = some r) : ACalls Ai 118 [.P d, .agg (Az k), .V n, .V j, .V f] [O5 d [[.v w0_0, .v w0_1, .V i.rest]], U2 w0_0 i.steps, U4 w0_1 i.valves] (E7 3 fun x os new => ∃ (u0_0 : Value) (u0_1 : Value), x = .tup [] ∧ os = [O5 d [[.v u0_0, .v u0_1, .V r.rest]], U2 u0_0 r.steps, U4 u0_1 r.valves] ∧ new = []) := by
 refine Ag Tryz.func118 I I I fun C hC => ?_
 refine Aa fun R u => vH (vJ [] I (Bh (Az k) 4 fun w => vI ?_))
 subst u
 refine Aa fun S y => ?_
 obtain ⟨e, A, h⟩ := Ac h
 refine vH (Al 1 [.o 0 3] I J1 (vJ [] I (Bp I I I (Ps _ _ A) dS ?_)))
 rintro _ _ ⟨rfl, rfl⟩
 refine vJ [3] I (A3 3 0 0 [Az e] I (vI ?_))
 subst y
 refine Aa fun U B => vH (Af 1 I (vJ [3] I (A3 3 0 3 [[.V e.In, .V e.Out, Q7 e.Hops, .V 0]] I (vI ?_))))
 subst B
 refine vN ?_
 obtain ⟨W, D, E⟩ := Ac h
 refine Bo D (K4 0 3 4 6) J4 (fun (a : (List Step) × (List Valve) × Int × Int) s ob => ∃ (c : Value) (b : Value), s = [(2, .V a.2.2.2)] ∧ ob = [O5 d [[.v c, .v b, .V a.2.2.1]], U2 c a.1, U4 b a.2.1, O3 w [[.V e.In, .V e.Out, Q7 e.Hops, .V 0]]]) ⟨w0_0, w0_1, I2⟩ ⟨I, J⟩ (pk N4) ?_
 rintro a X s ob ⟨c, b, rfl, rfl⟩ h F
 refine Aa fun Y G => Aj I (Ao h I ?_ ?_)
 intro H h
 refine vL ?_
 subst G
 refine vN (Aj I (Aj I (vM ?_)))
 obtain ⟨g, K, h⟩ := Ac h
 obtain ⟨Z, M, h⟩ := Ac h
 refine Bi (sl 7 0 (.act 7 (.still 8 (.act 9 (.act 10 (.still 11 (.still 12 (.drop 13 .nil)))))))) [0, 3] [_, _] I (Br 7 [.o 4 0, .o 6 1] I J2 (vK [] I I I (Bp I I I (Ps _ _ K) dS ?_)))
 rintro _ _ ⟨rfl, rfl⟩
 refine Lh I (Bd (l := [.V 5, .V 0, .V (max (wr (0 - f)) (min f (wr (j - a.2.2.2)))), .V g.In, .V g.Out, Q7 g.Hops, .V g.Rate]) Ec I) I (vK [] I I I (vR 7 (([(⟨5, 0, (max (wr (0 - f)) (min f (wr (j - a.2.2.2)))), g⟩ : Step)] : List Step).map Cg) (vK [1] I I I (vV 1 I M fun t => A9 2 I (wA 1 I fun N => vZ [0] I I I (vT 0 0 0 (es' := [[.v t, .v b, .V a.2.2.1]]) I I I I I I (A6 N) I (A4 I) I I (An (vI (Aj I ?_)))))))))
 obtain ⟨aa, O, h⟩ := Ac h
 refine vH (Al 5 [.o 4 0] I J1 (vJ N3 I (Es N3 (Vi d _ t b _ _ O) ?_)))
 rintro _ _ _ - ⟨P, Q, rfl, rfl, rfl⟩
 cases io h
 exact vI ⟨_, _, _, I, ⟨P, Q, I2⟩, J5, pk N4⟩
 intro H h
 obtain rfl := F _ (oi h).symm
 have h := E
 refine Cd N3 I ?_
 cases io h
 refine vQ ?_
 exact ⟨.inl I, [], [O5 d [[.v c, .v b, .V a.2.2.1]], U2 c a.1, U4 b a.2.1], J, Cy I (Cy I (Cy I (Cf))), ⟨[O5 d [[.v c, .v b, .V a.2.2.1]], U2 c a.1, U4 b a.2.1], [], I, I, c, b, I3⟩⟩
theorem iD (b : Nat) (a : batchlineref27_maker) (w0_0 : Value) (w0_1 : Value) (B : Li) (D : Li) (r : Bool × batchlineref27_maker) (h : R0 a B D = some r) : ACalls Ai 121 [.P b, Q0 B, Q0 D] [O5 b [[.v w0_0, .v w0_1, .V a.rest]], U2 w0_0 a.steps, U4 w0_1 a.valves] (E7 3 fun x os new => ∃ (u1_0 : Value) (u1_1 : Value), x = .v (.bool r.1) ∧ os = [O5 b [[.v u1_0, .v u1_1, .V r.2.rest]], U2 u1_0 r.2.steps, U4 u1_1 r.2.valves] ∧ new = []) := by
 refine Ag Tryz.func121 I I I fun C hC => ?_
 unfold R0 at h
 refine Aj I (Aj I (Ah (fun s ob => ∃ (H : (List Step) × (List Valve)) (M : Value), R0.J1 a B D H = some r ∧ s = [] ∧ ob = [O5 b [[.v M, .v w0_1, .V a.rest]], U2 M H.1, U4 w0_1 H.2]) (K4 0 1 2 7) J4 ?_ ?_))
 refine Aj I (vN ?_)
 obtain ⟨bf, af, ag⟩ := Ac h
 refine Bo af (K4 0 1 2 7) J4 (fun (g : (List Step) × (List Valve) × Int) s ob => ∃ (n : Value), s = [(8, .V g.2.2)] ∧ ob = [O5 b [[.v n, .v w0_1, .V a.rest]], U2 n g.1, U4 w0_1 g.2.1]) ⟨w0_0, I2⟩ ⟨I, J⟩ (pk N3) ?_
 rintro g bg s ob ⟨n, rfl, rfl⟩ h ah
 refine Aa fun bh ai => Bl [.l 2 (B.length : Int)] I ⟨A8, J⟩ (Ao h I ?_ ?_)
 intro aj h
 refine vL ?_
 subst ai
 refine vM (vN (vM ?_))
 obtain ⟨j, ⟨X, Y⟩, h⟩ := Ba h
 obtain ⟨bi, ak, h⟩ := Ac h
 refine Bi rH [0] [_] I (Br 9 [.o 4 0, .x 7 j.1 (rI j.2)] I ⟨⟨X, Ae Y⟩, I, J⟩ (vX I (Bd (l := [.V 2, .V j.2, .V 0, .V 0, .V 0, .N, .V 0]) Ec I) I (Gx (Av [] (K := []) I [(28, .agg [.V 2, .V j.2, .V 0, .V 0, .V 0, .list 2 ([].map Cb), .V 0])] ⟨⟨_, I, .agg (.cons (.refl _) (.cons (.refl _) (.cons (.refl _) (.cons (.refl _) (.cons (.refl _) (.cons (.nil _) (.rest _)))))))⟩, J⟩ (ob' := [O5 b [[.v n, .v w0_1, .V a.rest]], U2 n g.1, U4 w0_1 g.2.1]) (.rest _)) I (vK [] I I I (vR 7 (([(⟨2, j.2, 0, (⟨0, 0, [], 0⟩ : Path)⟩ : Step)] : List Step).map Cg) (vK [1] I I I (vV 1 I ak fun Z => A9 2 I (wA 1 I fun al => vZ [0] I I I (vT 0 0 0 (es' := [[.v Z, .v w0_1, .V a.rest]]) I I I I I I (A6 al) I (A4 I) I I (An (vI ?_)))))))))))
 obtain ⟨p, ⟨am, Q⟩, h⟩ := Ba h
 refine Bw 2 p.1 I Q fun an => Bi (pd 11 0 [10]) [0] [_] I (Br 8 [.o 3 0, .x 6 j.1 (rI j.2)] I ⟨⟨X, Ae Y⟩, I, J⟩ (vX I (Aq (m := p.1) I I I I I an I am Q) I (A9 1 I (vK [2] I I I (Bg 2 p.1 2 I I I (Ae Q) I I I I (A4 I) I (Ci (x := (⟨p.2.Travel, p.2.Open, false, p.2.Stuck⟩ : Valve)) I) (An (vI (vH (Af 3 I ?_)))))))))
 cases io h
 exact vI ⟨_, _, _, I, ⟨Z, I2⟩, J5, pk N3⟩
 intro aj h
 obtain rfl := ah _ (oi h).symm
 have h := ag
 exact vQ (lg ⟨(g.1, g.2.1), n, h, I2⟩ N3)
 rintro s ob ⟨H, M, h, rfl, rfl⟩
 unfold R0.J1 at h
 refine Ah (fun s ob => ∃ (e : (List Step) × (List Valve)) (f : Value), R0.J2 a B D e = some r ∧ s = [] ∧ ob = [O5 b [[.v f, .v w0_1, .V a.rest]], U2 f e.1, U4 w0_1 e.2]) (K4 0 1 2 7) J4 ?_ ?_
 refine Aj I (vN ?_)
 obtain ⟨bj, ao, aq⟩ := Ac h
 refine Bo ao (K4 0 1 2 7) J4 (fun (i : (List Step) × (List Valve) × Int) s ob => ∃ (u : Value), s = [(9, .V i.2.2)] ∧ ob = [O5 b [[.v u, .v w0_1, .V a.rest]], U2 u i.1, U4 w0_1 i.2.1]) ⟨M, I2⟩ ⟨I, J⟩ (pk N3) ?_
 rintro i bk s ob ⟨u, rfl, rfl⟩ h ar
 refine Aa fun bl au => Bl [.l 2 (D.length : Int)] I ⟨A8, J⟩ (Ao h I ?_ ?_)
 intro av h
 refine vL ?_
 subst au
 refine vM (vN (vM ?_))
 obtain ⟨k, ⟨aa, ab⟩, h⟩ := Ba h
 obtain ⟨bm, aw, h⟩ := Ac h
 refine Bi rH [0] [_] I (Br 9 [.o 4 0, .x 7 k.1 (rI k.2)] I ⟨⟨aa, Ae ab⟩, I, J⟩ (vX I (Bd (l := [.V 1, .V k.2, .V 0, .V 0, .V 0, .N, .V 0]) Ec I) I (Gx (Av [] (K := []) I [(58, .agg [.V 1, .V k.2, .V 0, .V 0, .V 0, .list 2 ([].map Cb), .V 0])] ⟨⟨_, I, .agg (.cons (.refl _) (.cons (.refl _) (.cons (.refl _) (.cons (.refl _) (.cons (.refl _) (.cons (.nil _) (.rest _)))))))⟩, J⟩ (ob' := [O5 b [[.v u, .v w0_1, .V a.rest]], U2 u i.1, U4 w0_1 i.2.1]) (.rest _)) I (vK [] I I I (vR 7 (([(⟨1, k.2, 0, (⟨0, 0, [], 0⟩ : Path)⟩ : Step)] : List Step).map Cg) (vK [1] I I I (vV 1 I aw fun ac => A9 2 I (wA 1 I fun ax => vZ [0] I I I (vT 0 0 0 (es' := [[.v ac, .v w0_1, .V a.rest]]) I I I I I I (A6 ax) I (A4 I) I I (An (vI ?_)))))))))))
 obtain ⟨w, ⟨ay, R⟩, h⟩ := Ba h
 refine Bw 2 w.1 I R fun az => Bi (pd 11 0 [10]) [0] [_] I (Br 8 [.o 3 0, .x 6 k.1 (rI k.2)] I ⟨⟨aa, Ae ab⟩, I, J⟩ (vX I (Aq (m := w.1) I I I I I az I ay R) I (A9 1 I (vK [2] I I I (Bg 2 w.1 2 I I I (Ae R) I I I I (A4 I) I (Ci (x := (⟨w.2.Travel, w.2.Open, true, w.2.Stuck⟩ : Valve)) I) (An (vI (vH (Af 3 I ?_)))))))))
 cases io h
 exact vI ⟨_, _, _, I, ⟨ac, I2⟩, J5, pk N3⟩
 intro av h
 obtain rfl := ar _ (oi h).symm
 have h := aq
 exact vQ (lg ⟨(i.1, i.2.1), u, h, I2⟩ N3)
 rintro s ob ⟨e, f, h, rfl, rfl⟩
 refine Aa fun bn a0 => ?_
 obtain ⟨bo, a1, h⟩ := Ac h
 obtain ⟨a2, a3, h⟩ := Ac h
 refine vH (vJ [] I (vW (sz := 1) (es := ([] : Li).map rI) I I I I I I I I I I I dS fun bp => Af 1 I (vJ [3] I (vV 3 I a1 fun bq => Af 1 I (vJ [3] I (vV 3 I a3 fun a4 => Af 1 I (vI ?_)))))))
 subst a0
 refine Ah (fun s ob => ∃ (S : Int), R0.J3 a e S = some r ∧ s = [(7, .V S)] ∧ ob = [O5 b [[.v f, .v w0_1, .V a.rest]], U2 f e.1, U4 w0_1 e.2]) [(0, _)] J1 ?_ ?_
 refine Aj I (vN ?_)
 obtain ⟨br, a5, ad⟩ := Ac h
 refine Bo a5 (K2 0 10) J2 (fun (O : Int × Int) s ob => s = [(7, .V O.1), (11, .V O.2)] ∧ ob = [O5 b [[.v f, .v w0_1, .V a.rest]], U2 f e.1, U4 w0_1 e.2, U0 a4 a2]) ⟨I, I⟩ ⟨I, I, J⟩ (pk N4) ?_
 rintro O bs s ob ⟨rfl, rfl⟩ h ae
 refine Aa fun bt a6 => vM (vH (Af 2 I (vS (By 3 I I I I) I (Af 1 I (vI (Ao h I ?_ ?_))))))
 intro a7 h
 refine vL ?_
 subst a6
 refine vM (vN (Aa fun bu a8 => ?_))
 obtain ⟨P, ⟨a9, U⟩, h⟩ := Ba h
 obtain ⟨E, ⟨ba, W⟩, h⟩ := Ba h
 refine Bw 3 P.1 I U fun bb => Bw 2 E.1 I W fun bc => Bi (pd 12 0 [10]) [0, 3, 2] [_, _, _] I (Br 6 [.o 3 0] I J1 (vX I (Aq (m := P.1) I I I I I bb I a9 U) I (AP.o I (Au 1 P.1 0 I I I (Ae U) I (y := .V P.2) I) I (vX I (Aq (m := E.1) I I I I I bc I ba W) I (AP.o I (Au 2 E.1 0 I I I (Ae W) I (y := .agg (A5 E.2)) I) I (wE I (gO E.2 _ I) (A9 1 I (An (vI ?_)))))))))
 subst a8
 refine vM (Aj I (Ao h I ?_ ?_))
 intro bd h
 refine Aj I ?_
 obtain rfl := ae _ (oi h).symm
 have h := ad
 have h := Dn h
 refine Cd N3 I ?_
 obtain rfl := oi h
 exact vO ⟨.inr I, [_], [O5 b [[.v f, .v w0_1, .V a.rest]], U2 f e.1, U4 w0_1 e.2], J1, Cy I (Cy I (Cy I (Cf))), ⟨[O5 b [[.v f, .v w0_1, .V a.rest]], U2 f e.1, U4 w0_1 e.2], [], I, I, f, w0_1, I3⟩⟩
 intro bd h
 refine vL (Yl I (vH (Af 3 I ?_)))
 cases io h
 exact vI ⟨_, _, _, I, I2, J4, pk N4⟩
 intro a7 h
 obtain rfl := ae _ (oi h).symm
 have h := ad
 have h := Do h
 exact vQ (lg ⟨O.1, h, I2⟩ N3)
 rintro s ob ⟨S, h, rfl, rfl⟩
 refine vM ?_
 obtain ⟨A, be, h⟩ := Ac h
 refine vH (Af 2 I (vJ N3 I (Es N3 (Vi b _ f w0_1 _ _ be) ?_)))
 rintro _ _ _ - ⟨F, G, rfl, rfl, rfl⟩
 refine vI (Aj I ?_)
 obtain rfl := oi h
 exact vO ⟨.inr I, [_], [O5 b [[.v F, .v G, .V A.rest]], U2 F A.steps, U4 G A.valves], J1, Cy I (Cy I (Cy I (Cf))), ⟨[O5 b [[.v F, .v G, .V A.rest]], U2 F A.steps, U4 G A.valves], [], I, I, F, G, I3⟩⟩
theorem gR (W : Nw) (be : Desk) (a : Plan) (ax : List Path) (Z : List Path) (ag : Int) (H : Int) (r : (List Step) × Int) (h : Xe W be a ax Z ag H = some r) : ACalls Ai 80 [.agg (Ab W), .agg (Bs be), .agg (Ak a), Q6 ax, Q6 Z, .V ag, .V H] [] (fun x new => ∃ (u0 : Value), x = .tup [.v u0, .V r.2] ∧ new = [U2 u0 r.1]) := by
 refine Ag Tryz.func80 I I I fun C hC => ?_
 refine Aa fun y1 ca => vH (vJ [] I (Bh (Ab W) 6 fun b2 => vJ [] I (Bh (Bs be) 4 fun b3 => vJ [] I (Bh (Ak a) 3 fun g => Af 2 I (vI ?_)))))
 subst ca
 refine Aa fun y5 cb => ?_
 obtain ⟨j, cc, h⟩ := Ac h
 refine vH (Af 2 I (vJ [] I (Bp I I I (gU _ _ _ cc) dS ?_)))
 rintro _ _ ⟨A, rfl, rfl⟩
 refine Af 1 I (vI ?_)
 subst cb
 refine Aa fun y9 cd => ?_
 obtain ⟨aa, ce, h⟩ := Ac h
 refine vH (vJ [] I (vW (sz := 4) (es := ([] : List Valve).map A5) I I I I I I I I I I I dS fun er => Al 2 [.o 1 1] I J1 (vJ [4] I (vV 4 I ce fun B => Af 1 I (wC 4 I fun cf => Ch (Bd (l := [.N, .v B, .V H]) aG (Bu I I (A6 cf) I (Bu I I I I (Eb)))) I (vJ [] I (Bh [.N, .v B, .V H] 3 fun e => Af 1 I (vI ?_))))))))
 subst cd
 refine Aa fun et ci => ?_
 obtain ⟨eu, cj, h⟩ := Ac h
 refine vH (vJ [] I (vW (sz := 1) (es := ([] : List Bool).map rB) I I I I I I I I I I I dS fun ev => Al 3 [.o 2 1] I J1 (vJ [6] I (vV 6 I cj fun i => Af 1 I (vI ?_)))))
 subst ci
 refine Ah (fun s ob => ∃ (f : (List Step) × (List Bool)) (az : Value), Xe.J1 a ax Z ag H j aa f = some r ∧ s = [] ∧ ob = [O1 g [Ak a], U3 A j, U4 B aa, O5 e [[.v az, .v B, .V H]], U1 i f.2, U2 az f.1]) (K7 3 4 5 9 16 17 18) J7 ?_ ?_
 refine Aj I (vN (vP (A7 54 7) ?_))
 obtain ⟨ew, ck, cl⟩ := Ac h
 refine Bo ck (K8 3 4 5 7 9 16 17 18) J8 (fun (k : (List Step) × (List Bool) × Int) s ob => ∃ (O : Value), s = [(19, .V k.2.2)] ∧ ob = [O0 b2 [Ab W], O1 g [Ak a], U3 A j, U4 B aa, O5 e [[.v O, .v B, .V H]], U1 i k.2.1, U2 O k.1]) ⟨nS, I2⟩ ⟨I, J⟩ (pk [0, 2, 3, 4, 5, 6, 7]) ?_
 rintro k bs s ob ⟨O, rfl, rfl⟩ h cm
 refine Aa fun ex cn => vM (vH (Af 2 I (vS (By 5 I I I I) I (Af 1 I (vI (Ao h I ?_ ?_))))))
 intro co h
 refine vL ?_
 subst cn
 refine Ah (fun s ob => ∃ (a0 : (List Step) × (List Bool)) (a1 : Value), Xe.J17 k a0 = some bs ∧ s = [] ∧ ob = [O0 b2 [Ab W], O1 g [Ak a], U3 A j, U4 B aa, O5 e [[.v a1, .v B, .V H]], U1 i a0.2, U2 a1 a0.1]) (K9 3 4 5 7 9 16 17 18 19) J9 ?_ ?_
 refine vN (Ah (fun s ob => ∃ (bf : Bool), Xe.J18 k bf = some bs ∧ s = [(72, .v (.bool bf))] ∧ ob = [O0 b2 [Ab W], O1 g [Ak a], U3 A j, U4 B aa, O5 e [[.v O, .v B, .V H]], U1 i k.2.1, U2 O k.1]) (K9 3 4 5 7 9 16 17 18 19) J9 ?_ ?_)
 obtain ⟨F, ⟨bg, P⟩, h⟩ := Ba h
 rcases bt (F.2) with ab | ab
 have h := B0 ab h
 obtain ⟨ah, ⟨bu, bv⟩, h⟩ := Ba h
 rcases bt ((!ah.2)) with ai | ai
 have h := B0 ai h
 exact Bw 5 F.1 I P fun cp => Bi (pd 24 0 [20]) [5, 1] [_, _] I (A9 2 I (vX I (Aq (m := F.1) I I I I I cp I bg P) I (AP.o I (Au 0 F.1 0 I I I (Ae P) I (y := .v (.bool F.2)) I) I (A9 1 I (Bk 53 I ab (Br 7 [.o 1 1, .x 3 ah.1 (rB ah.2)] I ⟨⟨bu, Ae bv⟩, I, J⟩ (Bk 60 I ai (A9 12 I (An (vI (lg ⟨true, h, I2⟩ N7)))))))))))
 have h := B8 ai h
 obtain ⟨bw, ⟨cq, cr⟩, h⟩ := Ba h
 obtain ⟨ct, cu, h⟩ := Ac h
 refine Bw 5 F.1 I P fun cv => Bi (pd 24 0 [20]) [5, 1, 0] [_, _, _] I (A9 2 I (vX I (Aq (m := F.1) I I I I I cv I bg P) I (AP.o I (Au 0 F.1 0 I I I (Ae P) I (y := .v (.bool F.2)) I) I (A9 1 I (Bk 53 I ab (Br 7 [.o 1 1, .x 3 ah.1 (rB ah.2)] I ⟨⟨bu, Ae bv⟩, I, J⟩ (Bk 60 I ai (Br 8 [.o 0 2, .o 3 2, .x 5 bw.1 (Bn bw.2)] I ⟨⟨cq, Ae cr⟩, I, I, J⟩ (X4 [] I I I I I (Cw I (.refl _) I I (.cons (.refl _) (.cons (.us 2 I) (.rest _))) I (V6 _ _ _ _ cu) dS (by rintro _ _ ⟨rfl, _⟩; rfl) ?_))))))))))
 rintro _ ⟨_, rfl, -⟩
 exact A9 3 I (An (vI (lg ⟨(!ct), h, I2⟩ N7)))
 have h := B8 ab h
 refine Bw 5 F.1 I P fun cw => Bi (pd 24 0 [20]) [5] [_] I (A9 2 I (vX I (Aq (m := F.1) I I I I I cw I bg P) I (AP.o I (Au 0 F.1 0 I I I (Ae P) I (y := .v (.bool F.2)) I) I (A9 1 I (Bk 53 I ab (A9 7 I (Cx I I I I dS (Cx I I I I dS (Cx I I I I dS (Cx I I I I dS (Cx I I I I dS ?_)))))))))))
 exact Cx I I I I dS (Cx I I I I dS (Cx I I I I dS (jM I I I I dS (Cx I I I I dS (A9 2 I (An (vI (lg ⟨false, h, I2⟩ N7))))))))
 rintro s ob ⟨bf, h, rfl, rfl⟩
 refine Ao h I ?_ ?_
 intro cx h
 refine vM ?_
 obtain ⟨cy, cz, h⟩ := Ac h
 refine vH (Al 6 [.o 4 4] I J1 (Ch (Bd (l := [.V 4, .V k.2.2, .V 0, .V 0, .V 0, .N, .V 0]) Ec I) I (wD (Av [] (K := []) I [(79, .agg [.V 4, .V k.2.2, .V 0, .V 0, .V 0, .list 2 ([].map Cb), .V 0])] ⟨⟨_, I, .agg (.cons (.refl _) (.cons (.refl _) (.cons (.refl _) (.cons (.refl _) (.cons (.refl _) (.cons (.nil _) (.rest _)))))))⟩, J⟩ (ob' := [O0 b2 [Ab W], O1 g [Ak a], U3 A j, U4 B aa, O5 e [[.v O, .v B, .V H]], U1 i k.2.1, U2 O k.1]) (.rest _)) (vJ [] I (vR 7 (([(⟨4, k.2.2, 0, (⟨0, 0, [], 0⟩ : Path)⟩ : Step)] : List Step).map Cg) (vJ [6] I (vV 6 I cz fun bx => Af 2 I (wC 6 I fun c0 => vJ [4] I (vT 4 0 0 (es' := [[.v bx, .v B, .V H]]) I I I I I I (A6 c0) I (A4 I) I I (vI ?_))))))))))
 obtain ⟨bh, ⟨c1, bz⟩, h⟩ := Ba h
 exact vH (Af 2 I (vS (Bb 5 (m := bh.1) I I I I I I I c1 (Ae bz)) I (vJ [5] I (Bg 5 bh.1 0 I I I (Ae bz) I I I I (A4 I) I (Ci (x := false) I) (vI (lg ⟨(cy, (k.2.1.set bh.1 false)), bx, h, I2⟩ N7))))))
 intro cx h
 exact vL (lg ⟨(k.1, k.2.1), O, h, I2⟩ N7)
 rintro s ob ⟨a0, a1, h, rfl, rfl⟩
 unfold Xe.J17 at h
 refine vH (Af 3 I ?_)
 cases io h
 exact vI ⟨_, _, _, I, ⟨a1, I2⟩, J9, pk N7⟩
 intro co h
 obtain rfl := cm _ (oi h).symm
 have h := cl
 exact vQ (lg ⟨(k.1, k.2.1), O, h, I2⟩ [1, 2, 3, 4, 5, 6])
 rintro s ob ⟨f, az, h, rfl, rfl⟩
 unfold Xe.J1 at h
 refine Ah (fun s ob => ∃ (b : (List Step) × (List Valve) × Int) (n : Value) (t : Value), Xe.J2 a Z ag j f b = some r ∧ s = [] ∧ ob = [O1 g [Ak a], U3 A j, U4 t b.2.1, O5 e [[.v n, .v t, .V b.2.2]], U1 i f.2, U2 n b.1]) (K6 4 5 9 16 17 18) J6 ?_ ?_
 refine Aj I (vN ?_)
 obtain ⟨ey, c2, c3⟩ := Ac h
 refine Bo c2 (K7 3 4 5 9 16 17 18) J7 (fun (R : (List Step) × (List Valve) × Int × Int) s ob => ∃ (aj : Value) (ak : Value), s = [(20, .V R.2.2.2)] ∧ ob = [O1 g [Ak a], U3 A j, U4 ak R.2.1, O5 e [[.v aj, .v ak, .V R.2.2.1]], U1 i f.2, U2 aj R.1]) ⟨az, B, I2⟩ ⟨I, J⟩ (pk N6) ?_
 rintro R ez s ob ⟨aj, ak, rfl, rfl⟩ h c4
 refine Aa fun e0 c5 => Bl [.l 2 (ax.length : Int)] I ⟨A8, J⟩ (Ao h I ?_ ?_)
 intro c6 h
 refine vL ?_
 subst c5
 refine vM (vN ?_)
 obtain ⟨ac, ⟨bi, bj⟩, h⟩ := Ba h
 obtain ⟨e1, c7, h⟩ := Ac h
 obtain ⟨e2, c8, h⟩ := Ac h
 refine Bi (sl 15 0 (.still 16 (.act 15 (.act 17 .nil)))) [] [] I (Br 16 [.x 3 ac.1 (Az ac.2), .x 7 ac.1 (Az ac.2), .x 13 ac.1 (Az ac.2)] I ⟨⟨bi, Ae bj⟩, ⟨bi, Ae bj⟩, ⟨bi, Ae bj⟩, J⟩ (vK [] I I I (Cw I (.refl _) I I (.cons (.us 1 I) (.rest _)) I (Wd _ _ _ c7) dS (by rintro _ _ ⟨rfl, _⟩; rfl) ?_)))
 rintro _ ⟨_, rfl, -⟩
 refine vK [3, 5, 2] I I I (Es [3, 5, 2] (Vq e _ aj ak _ _ _ _ _ c8) ?_)
 rintro _ _ _ - ⟨c9, da, rfl, rfl, rfl⟩
 refine An (vI (vH (Af 3 I ?_)))
 cases io h
 exact vI ⟨_, _, _, I, ⟨c9, da, I2⟩, J8, pk N6⟩
 intro c6 h
 obtain rfl := c4 _ (oi h).symm
 have h := c3
 exact vQ (lg ⟨(R.1, R.2.1, R.2.2.1), aj, ak, h, I2⟩ N6)
 rintro s ob ⟨b, n, t, h, rfl, rfl⟩
 refine Aa fun e3 db => ?_
 obtain ⟨e4, dc, h⟩ := Ac h
 obtain ⟨X, dd, h⟩ := Ac h
 refine vH (Al 1 [.o 0 0] I J1 (vJ [] I (Bp I I I (Pp _ _ dc) dS ?_)))
 rintro _ _ ⟨rfl, rfl⟩
 refine vJ [] I (Bp I I I (Pu _ _ dd) dS ?_)
 rintro _ _ ⟨al, rfl, rfl⟩
 refine Af 1 I (vI ?_)
 subst db
 refine Aj I (Ah (fun s ob => ∃ (M : Li × Li) (a2 : Value) (a3 : Value), Xe.J3 a Z ag j f b M = some r ∧ s = [(22, .v a2), (23, .v a3)] ∧ ob = [O1 g [Ak a], U3 A j, U4 t b.2.1, O5 e [[.v n, .v t, .V b.2.2]], U1 i f.2, U2 n b.1, U0 a2 M.1, U0 a3 M.2]) (K6 4 5 9 16 17 18) J6 ?_ ?_)
 refine Aj I (vN (vP (A7 3 1) (vP (A7 3 1) ?_)))
 obtain ⟨e5, de, df⟩ := Ac h
 refine Bo de (K7 4 5 9 16 17 18 21) J7 (fun (u : Li × Li × Int) s ob => ∃ (ad : Value) (S : Value), s = [(22, .v ad), (23, .v S), (24, .V u.2.2)] ∧ ob = [O1 g [Ak a], U3 A j, U4 t b.2.1, O5 e [[.v n, .v t, .V b.2.2]], U1 i f.2, U2 n b.1, U1 al X, U0 ad u.1, U0 S u.2.1]) ⟨nS, nS, I2⟩ ⟨I, I, I, J⟩ (pk N9) ?_
 rintro u a4 s ob ⟨ad, S, rfl, rfl⟩ h dg
 refine Aa fun e6 dh => vM (vH (Af 2 I (vS (By 6 I I I I) I (Af 1 I (vI (Ao h I ?_ ?_))))))
 intro di h
 refine vL ?_
 subst dh
 refine Ah (fun s ob => ∃ (a5 : Li × Li) (a6 : Value) (a7 : Value), Xe.J11 u a5 = some a4 ∧ s = [(22, .v a6), (23, .v a7)] ∧ ob = [O1 g [Ak a], U3 A j, U4 t b.2.1, O5 e [[.v n, .v t, .V b.2.2]], U1 i f.2, U2 n b.1, U1 al X, U0 a6 a5.1, U0 a7 a5.2]) (K8 4 5 9 16 17 18 21 24) J8 ?_ ?_
 refine vN (Aa fun e7 dj => ?_)
 obtain ⟨D, ⟨dk, b0⟩, h⟩ := Ba h
 refine vH (Al 5 [.o 3 3] I J1 (vS (Bb 2 (m := D.1) I I I I I I I dk (Ae b0)) I (vS (Au 2 D.1 0 I I I (Ae b0) I (y := .agg (A5 D.2)) I) I (vJ [] I (Bm W5 4 fun b1 => vJ [9] I (A3 9 0 0 [A5 D.2] I (vI ?_)))))))
 subst dj
 refine Ah (fun s ob => ∃ (Y : Li) (ae : Value), Xe.J12 X u D Y = some a4 ∧ s = [(22, .v ae)] ∧ ob = [O1 g [Ak a], U3 A j, U4 t b.2.1, O5 e [[.v n, .v t, .V b.2.2]], U1 i f.2, U2 n b.1, U1 al X, U0 ae Y, U0 S u.2.1, Yi b1 [A5 D.2]]) (rM 4 5 9 16 17 18 21 23 24 25) oF ?_ ?_
 refine Ah (fun s ob => ∃ (bk : Bool), Xe.J14 X u D bk = some a4 ∧ s = [(140, .v (.bool bk))] ∧ ob = [O1 g [Ak a], U3 A j, U4 t b.2.1, O5 e [[.v n, .v t, .V b.2.2]], U1 i f.2, U2 n b.1, U1 al X, U0 ad u.1, U0 S u.2.1, Yi b1 [A5 D.2]]) [(4, _), (5, _), (9, _), (16, _), (17, _), (18, _), (21, _), (22, _), (23, _), (24, _), (25, _)] qR ?_ ?_
 obtain ⟨a8, ⟨dl, b5⟩, h⟩ := Ba h
 refine vH (Af 2 I (vS (Bb 6 (m := a8.1) I I I I I I I dl (Ae b5)) I (vS (Au 6 a8.1 0 I I I (Ae b5) I (y := .v (.bool a8.2)) I) I (Af 2 I ?_))))
 rcases bt ((!a8.2)) with am | am
 have h := B0 am h
 refine Ad 132 I am (Al 1 [.o 0 9] I J1 (Bf I I I (vU (gE D.2 _ I) (Af 2 I ?_))))
 rcases bt ((!(N1 D.2))) with an | an
 have h := B0 an h
 exact Ad 136 I an (Af 4 I (vI (lg ⟨true, h, I2⟩ tS)))
 have h := B8 an h
 exact Ad 136 I an (Al 4 [.o 1 9] I J1 (vI (lg ⟨D.2.Want, h, I2⟩ tS)))
 have h := B8 am h
 exact Ad 132 I am (Af 4 I (Ce I I dS (Ce I I dS (Af 2 I (vI (lg ⟨false, h, I2⟩ tS))))))
 rintro s ob ⟨bk, h, rfl, rfl⟩
 refine Ao h I ?_ ?_
 intro dm h
 obtain ⟨dn, dp, h⟩ := Ac h
 exact vH (Af 2 I (vJ [] I (vR 1 (([u.2.2] : Li).map rI) (vJ [7] I (vV 7 I dp fun dq => Af 1 I (vI (lg ⟨dn, dq, h, I2⟩ tS)))))))
 intro dm h
 exact vL (lg ⟨u.1, ad, h, I2⟩ tS)
 rintro s ob ⟨Y, ae, h, rfl, rfl⟩
 unfold Xe.J12 at h
 refine Ah (fun s ob => ∃ (bl : Bool), Xe.J13 u Y bl = some a4 ∧ s = [(158, .v (.bool bl))] ∧ ob = [O1 g [Ak a], U3 A j, U4 t b.2.1, O5 e [[.v n, .v t, .V b.2.2]], U1 i f.2, U2 n b.1, U1 al X, U0 ae Y, U0 S u.2.1]) (rM 4 5 9 16 17 18 21 22 23 24) oF ?_ ?_
 obtain ⟨a9, ⟨dr, b6⟩, h⟩ := Ba h
 refine vH (Af 2 I (vS (Bb 6 (m := a9.1) I I I I I I I dr (Ae b6)) I (vS (Au 6 a9.1 0 I I I (Ae b6) I (y := .v (.bool a9.2)) I) I (Af 1 I ?_))))
 rcases bt (a9.2) with ao | ao
 have h := B0 ao h
 refine Ad 149 I ao (Al 1 [.o 0 9] I J1 (Bf I I I (vU (Vl D.2 _ I) (Af 2 I ?_))))
 rcases bt ((!(Iq D.2))) with aq | aq
 have h := B0 aq h
 exact Ad 153 I aq (Af 5 I (vI (lg ⟨true, h, I2⟩ N9)))
 have h := B8 aq h
 exact Ad 153 I aq (Al 5 [.o 1 9] I J1 (vI (lg ⟨(!D.2.Want), h, I2⟩ N9)))
 have h := B8 ao h
 exact Ad 149 I ao (Af 4 I (Ce I I dS (Ce I I dS (Ce I I dS (Af 2 I (vI (lg ⟨false, h, I2⟩ N9)))))))
 rintro s ob ⟨bl, h, rfl, rfl⟩
 refine Ao h I ?_ ?_
 intro ds h
 obtain ⟨dt, du, h⟩ := Ac h
 exact vH (Af 2 I (vJ [] I (vR 1 (([u.2.2] : Li).map rI) (vJ [8] I (vV 8 I du fun dv => Af 1 I (vI (lg ⟨(Y, dt), ae, dv, h, I2⟩ N9)))))))
 intro ds h
 exact vL (lg ⟨(Y, u.2.1), ae, S, h, I2⟩ N9)
 rintro s ob ⟨a5, a6, a7, h, rfl, rfl⟩
 unfold Xe.J11 at h
 refine vH (Af 3 I ?_)
 cases io h
 exact vI ⟨_, _, _, I, ⟨a6, a7, I2⟩, oF, pk N9⟩
 intro di h
 obtain rfl := dg _ (oi h).symm
 have h := df
 exact vQ (lg ⟨(u.1, u.2.1), ad, S, h, I2⟩ [0, 1, 2, 3, 4, 5, 7, 8])
 rintro s ob ⟨M, a2, a3, h, rfl, rfl⟩
 refine Aa fun e8 dw => vM ?_
 obtain ⟨e9, dx, h⟩ := Ac h
 refine vH (Af 3 I (wD (Av [6, 7] (K := [U0 a2 M.1, U0 a3 M.2]) I [(22, Q0 M.1), (23, Q0 M.2), (164, Q0 M.1), (165, Q0 M.2)] ⟨⟨_, I, .us 0 I⟩, ⟨_, I, .us 1 I⟩, ⟨_, I, .us 0 I⟩, ⟨_, I, .us 1 I⟩, J⟩ (ob' := [O1 g [Ak a], U3 A j, U4 t b.2.1, O5 e [[.v n, .v t, .V b.2.2]], U1 i f.2, U2 n b.1]) (.rest _)) (vJ [3, 5, 2] I (Es [3, 5, 2] (iD e _ n t _ _ _ dx) ?_))))
 rintro _ _ _ - ⟨dy, dz, rfl, rfl, rfl⟩
 refine Af 1 I (vI (Ao h I ?_ ?_))
 intro d0 h
 refine Aj I (vP (A7 54 7) (Cd [6] I ?_))
 cases io h
 exact vO ⟨.inr I, [_, _], [.us nS 54 7 ([].map Cg)], J2, Cy I (Cf), ⟨nS, I2⟩⟩
 intro d0 h
 refine vL ?_
 subst dw
 refine Ah (fun s ob => ∃ (w : (List Step) × (List Valve) × Int) (ba : Value) (E : Value), Xe.J4 a f w = some r ∧ s = [] ∧ ob = [O1 g [Ak a], U4 E w.2.1, O5 e [[.v ba, .v E, .V w.2.2]], U1 i f.2, U2 ba w.1]) (K3 9 17 18) J3 ?_ ?_
 refine Aj I (vN ?_)
 obtain ⟨fa, d1, d2⟩ := Ac h
 refine Bo d1 (K6 4 5 9 16 17 18) J6 (fun (U : (List Step) × (List Valve) × Int × Int) s ob => ∃ (ar : Value) (au : Value), s = [(26, .V U.2.2.2)] ∧ ob = [O1 g [Ak a], U3 A j, U4 au U.2.1, O5 e [[.v ar, .v au, .V U.2.2.1]], U1 i f.2, U2 ar U.1]) ⟨dy, dz, I2⟩ ⟨I, J⟩ (pk N6) ?_
 rintro U fb s ob ⟨ar, au, rfl, rfl⟩ h d3
 refine Aa fun fc d4 => Bl [.l 2 (Z.length : Int)] I ⟨A8, J⟩ (Ao h I ?_ ?_)
 intro d5 h
 refine vL ?_
 subst d4
 refine vM (vN ?_)
 obtain ⟨af, ⟨bm, bn⟩, h⟩ := Ba h
 obtain ⟨fd, d6, h⟩ := Ac h
 obtain ⟨fe, d7, h⟩ := Ac h
 refine Bi (sl 10 0 (sl 6 11 (.act 10 (.act 17 .nil)))) [] [] I (Br 16 [.x 3 af.1 (Az af.2), .x 8 af.1 (Az af.2), .x 12 af.1 (Az af.2)] I ⟨⟨bm, Ae bn⟩, ⟨bm, Ae bn⟩, ⟨bm, Ae bn⟩, J⟩ (vK [] I I I (Cw I (.refl _) I I (.cons (.us 1 I) (.rest _)) I (Wd _ _ _ d6) dS (by rintro _ _ ⟨rfl, _⟩; rfl) ?_)))
 rintro _ ⟨_, rfl, -⟩
 refine vK [3, 5, 2] I I I (Es [3, 5, 2] (Vq e _ ar au _ _ _ _ _ d7) ?_)
 rintro _ _ _ - ⟨d8, d9, rfl, rfl, rfl⟩
 refine An (vI (vH (Af 3 I ?_)))
 cases io h
 exact vI ⟨_, _, _, I, ⟨d8, d9, I2⟩, J7, pk N6⟩
 intro d5 h
 obtain rfl := d3 _ (oi h).symm
 have h := d2
 exact vQ (lg ⟨(U.1, U.2.1, U.2.2.1), ar, au, h, I2⟩ [0, 2, 3, 4, 5])
 rintro s ob ⟨w, ba, E, h, rfl, rfl⟩
 unfold Xe.J4 at h
 refine Ah (fun s ob => ∃ (bb : List Step) (av : Value), Xe.J5 bb = some r ∧ s = [] ∧ ob = [U4 E w.2.1, O5 e [[.v av, .v E, .V w.2.2]], U2 av bb]) [(17, _)] J1 ?_ ?_
 refine Aj I (vN ?_)
 obtain ⟨ff, ea, eb⟩ := Ac h
 refine Bo ea (K3 9 17 18) J3 (fun (G : (List Step) × Int) s ob => ∃ (Q : Value), s = [(27, .V G.2)] ∧ ob = [O1 g [Ak a], U4 E w.2.1, O5 e [[.v Q, .v E, .V w.2.2]], U1 i f.2, U2 Q G.1]) ⟨ba, I2⟩ ⟨I, J⟩ (pk N5) ?_
 rintro G b7 s ob ⟨Q, rfl, rfl⟩ h ec
 refine Aa fun fg ed => vM (vH (Af 2 I (vS (By 3 I I I I) I (Af 1 I (vI (Ao h I ?_ ?_))))))
 intro ee h
 refine vL ?_
 subst ed
 refine Ah (fun s ob => ∃ (bo : List Step) (bc : Value), Xe.J7 G bo = some b7 ∧ s = [] ∧ ob = [O1 g [Ak a], U4 E w.2.1, O5 e [[.v bc, .v E, .V w.2.2]], U1 i f.2, U2 bc bo]) (K4 9 17 18 27) J4 ?_ ?_
 refine vN (Ah (fun s ob => ∃ (bp : Bool), Xe.J8 G bp = some b7 ∧ s = [(209, .v (.bool bp))] ∧ ob = [O1 g [Ak a], U4 E w.2.1, O5 e [[.v Q, .v E, .V w.2.2]], U1 i f.2, U2 Q G.1]) (K4 9 17 18 27) J4 ?_ ?_)
 obtain ⟨bq, ⟨ef, eg⟩, h⟩ := Ba h
 refine vH (Al 6 [.o 1 0, .x 3 bq.1 (rB bq.2)] I ⟨⟨ef, Ae eg⟩, I, J⟩ ?_)
 rcases bt (bq.2) with aw | aw
 have h := B0 aw h
 obtain ⟨bd, ⟨eh, b8⟩, h⟩ := Ba h
 exact Ad 203 I aw (Af 2 I (Bf I I I (vS (Bb 3 (m := bd.1) I I I I I I I eh (Ae b8)) I (Bf I I I (vS (Au 3 bd.1 0 I I I (Ae b8) I (y := .v (.bool bd.2)) I) I (Af 2 I (vI (lg ⟨(!bd.2), h, I2⟩ N5))))))))
 have h := B8 aw h
 exact Ad 203 I aw (Af 6 I (vI (lg ⟨false, h, I2⟩ N5)))
 rintro s ob ⟨bp, h, rfl, rfl⟩
 refine Ao h I ?_ ?_
 intro ei h
 obtain ⟨ej, ek, h⟩ := Ac h
 exact vH (Al 6 [.o 4 2] I J1 (Ch (Bd (l := [.V 3, .V G.2, .V 0, .V 0, .V 0, .N, .V 0]) Ec I) I (wD (Av [] (K := []) I [(216, .agg [.V 3, .V G.2, .V 0, .V 0, .V 0, .list 2 ([].map Cb), .V 0])] ⟨⟨_, I, .agg (.cons (.refl _) (.cons (.refl _) (.cons (.refl _) (.cons (.refl _) (.cons (.refl _) (.cons (.nil _) (.rest _)))))))⟩, J⟩ (ob' := [O1 g [Ak a], U4 E w.2.1, O5 e [[.v Q, .v E, .V w.2.2]], U1 i f.2, U2 Q G.1]) (.rest _)) (vJ [] I (vR 7 (([(⟨3, G.2, 0, (⟨0, 0, [], 0⟩ : Path)⟩ : Step)] : List Step).map Cg) (vJ [4] I (vV 4 I ek fun b9 => Af 2 I (wC 4 I fun el => vJ [2] I (vT 2 0 0 (es' := [[.v b9, .v E, .V w.2.2]]) I I I I I I (A6 el) I (A4 I) I I (vI (lg ⟨ej, b9, h, I2⟩ N5)))))))))))
 intro ei h
 exact vL (lg ⟨G.1, Q, h, I2⟩ N5)
 rintro s ob ⟨bo, bc, h, rfl, rfl⟩
 unfold Xe.J7 at h
 refine vH (Af 3 I ?_)
 cases io h
 exact vI ⟨_, _, _, I, ⟨bc, I2⟩, J4, pk N5⟩
 intro ee h
 obtain rfl := ec _ (oi h).symm
 have h := eb
 exact vQ (lg ⟨G.1, Q, h, I2⟩ [1, 2, 4])
 rintro s ob ⟨bb, av, h, rfl, rfl⟩
 refine vM (vM (vH (Al 4 [.o 3 1] I J1 (vS (By 2 I I I I) I (Af 1 I (vI (Ao h I ?_ ?_)))))))
 intro em h
 refine Aj I (vP (A7 54 7) (Cd [3] I ?_))
 cases io h
 exact vO ⟨.inr I, [_, _], [.us nS 54 7 ([].map Cg)], J2, Cy I (Cf), ⟨nS, I2⟩⟩
 intro em h
 refine vL (Bl [.o 3 1] I J1 (Cd [2] I ?_))
 cases io h
 exact vO ⟨.inr I, [_, _], [U2 av bb], J2, Cy I (Cf), ⟨av, I2⟩⟩
theorem V0 (a : Nw) (b : Desk) (e : Plan) (f : Int) (k : Int) (r : (List Step) × Int) (h : H3 a b e f k = some r) : ACalls Ai 32 [.agg (Ab a), .agg (Bs b), .agg (Ak e), .V f, .V k] [] (fun x new => ∃ (H : Value), x = .tup [.v H, .V r.2] ∧ new = [U2 H r.1]) := by
 refine Ag Tryz.func32 I I I fun C hC => ?_
 refine Aa fun y1 U => vH (vJ [] I (Bh (Ab a) 6 fun w => vJ [] I (Bh (Bs b) 4 fun A => vJ [] I (Bh (Ak e) 3 fun B => Af 2 I (vI ?_)))))
 subst U
 refine Aa fun y5 W => vM ?_
 obtain ⟨r6, X, h⟩ := Ac h
 refine vH (Al 2 [.o 0 0, .o 1 1] I J2 (vU (gG _ _ _ X) (Af 1 I (vI (Aj I (Ao h I ?_ ?_))))))
 intro Y h
 refine Aj I (vP (A7 54 7) (Cd [3] I ?_))
 cases io h
 exact vO ⟨.inr I, [_, _], [.us nS 54 7 ([].map Cg)], J2, Cy I (Cf), ⟨nS, I2⟩⟩
 intro Y h
 refine vL ?_
 subst W
 refine Aa fun y9 Z => vM ?_
 obtain ⟨a3, aa, h⟩ := Ac h
 refine vH (Al 2 [.o 0 0, .o 1 2] I J2 (vU (Ii _ _ _ aa) (Af 1 I (vI (Aj I (Ao h I ?_ ?_))))))
 intro ab h
 refine Aj I (vP (A7 54 7) (Cd [3] I ?_))
 cases io h
 exact vO ⟨.inr I, [_, _], [.us nS 54 7 ([].map Cg)], J2, Cy I (Cf), ⟨nS, I2⟩⟩
 intro ab h
 refine vL ?_
 subst Z
 refine Aa fun a4 ac => D2 43 (decide (f < 1) || (decide (f > 1000) || (decide (k < 0) || decide (k > 100)))) ?_ ?_
 refine vH (Af 3 I ?_)
 rcases bt (decide (f < 1)) with g | g
 exact Ad 32 I g (Af 11 I (vI (jf (by simp only [g, bz]) I I I2)))
 refine Ad 32 I g (Af 4 I ?_)
 rcases bt (decide (f > 1000)) with n | n
 exact Ad 36 I n (Af 7 I (vI (jf (by simp only [g, n, bz]) I I I2)))
 refine Ad 36 I n (Af 4 I ?_)
 rcases bt (decide (k < 0)) with p | p
 exact Ad 40 I p (Af 3 I (vI (jf (by simp only [g, n, p, bz]) I I I2)))
 exact Ad 40 I p (Af 3 I (vI (jf (by simp only [g, n, p, bz]) I I I2)))
 refine Ao h I ?_ ?_
 intro ad h
 refine Aj I (vP (A7 54 7) (Cd [3] I ?_))
 cases io h
 rotate_left
 intro ad h
 refine vL ?_
 subst ac
 refine Aa fun a5 ae => ?_
 obtain ⟨i, af, h⟩ := Ac h
 refine vH (Al 2 [.o 0 0] I J1 (vS (Bv 1 0 1 I I I I I (y := .agg (Ak b.Plan)) I) I (vJ [] I (Bp I I I (Vt _ _ _ af) dS ?_))))
 rintro _ _ ⟨D, rfl, rfl⟩
 refine Af 5 I (vI ?_)
 subst ae
 refine Aa fun a6 ag => Aj I (Ao h I ?_ ?_)
 intro ah h
 refine Aj I (vP (A7 54 7) (Cd [4] I ?_))
 cases io h
 rotate_left
 intro ah h
 refine vL ?_
 subst ag
 refine Aa fun a7 ai => ?_
 obtain ⟨j, aj, h⟩ := Ac h
 refine vH (Al 2 [.o 0 0, .o 1 2] I J2 (vJ [] I (Bp I I I (Vt _ _ _ aj) dS ?_)))
 rintro _ _ ⟨E, rfl, rfl⟩
 refine Af 5 I (vI ?_)
 subst ai
 refine Aa fun a8 ak => Aj I (Ao h I ?_ ?_)
 intro al h
 refine Aj I (vP (A7 54 7) (Cd [5] I ?_))
 cases io h
 any_goals
  exact vO ⟨.inr I, [_, _], [.us nS 54 7 ([].map Cg)], J2, Cy I (Cf), ⟨nS, I2⟩⟩
 intro al h
 refine vL ?_
 subst ak
 refine Ah (fun s ob => ∃ (M : Unit), H3.J1 a b e f k i j M = some r ∧ s = [] ∧ ob = [O0 w [Ab a], O4 A [Bs b], O1 B [Ak e], U3 D i.1, U3 E j.1]) (K7 3 4 5 6 7 14 16) J7 ?_ ?_
 refine Aj I (vN ?_)
 obtain ⟨a9, am, N⟩ := Ac h
 refine Bo am (K7 3 4 5 6 7 14 16) J7 (fun (F : Int) s ob => s = [(17, .V F)] ∧ ob = [O0 w [Ab a], O4 A [Bs b], O1 B [Ak e], U3 D i.1, U3 E j.1]) ⟨I, I⟩ ⟨I, J⟩ (pk N5) ?_
 rintro F an s ob ⟨rfl, rfl⟩ h O
 refine Aa fun ba ao => Bl [.o 2 0, .l 3 (a.Stations.length : Int)] I ⟨A8, I, J⟩ (Ao h I ?_ ?_)
 intro ap h
 refine vL ?_
 subst ao
 refine vM (vN (Ah (fun s ob => ∃ (G : Bool), H3.J3 F G = some an ∧ s = [(86, .v (.bool G))] ∧ ob = [O0 w [Ab a], O4 A [Bs b], O1 B [Ak e], U3 D i.1, U3 E j.1]) (K8 3 4 5 6 7 14 16 17) J8 ?_ ?_))
 obtain ⟨t, ⟨P, Q⟩, h⟩ := Ba h
 rcases bt (t.2) with u | u
 have h := B0 u h
 obtain ⟨R, ⟨aq, ar⟩, h⟩ := Ba h
 obtain ⟨au, av, h⟩ := Ac h
 refine Bi (pd 17 0 [14]) [2, 0] [_, _] I (Br 6 [.o 1 0, .x 3 t.1 (rB t.2)] I ⟨⟨P, Ae Q⟩, I, J⟩ (Bk 75 I u (Br 8 [.o 0 1, .o 3 1, .x 5 R.1 (Bn R.2)] I ⟨⟨aq, Ae ar⟩, I, I, J⟩ (X4 [] I I I I I (Cw I (.refl _) I I (.cons (.refl _) (.cons (.us 4 I) (.rest _))) I (V6 _ _ _ _ av) dS (by rintro _ _ ⟨rfl, _⟩; rfl) ?_)))))
 rintro _ ⟨_, rfl, -⟩
 exact A9 2 I (An (vI (lg ⟨(!au), h, I2⟩ N5)))
 have h := B8 u h
 exact Bi (pd 17 0 [14]) [2] [_] I (Br 6 [.o 1 0, .x 3 t.1 (rB t.2)] I ⟨⟨P, Ae Q⟩, I, J⟩ (Bk 75 I u (A9 11 I (An (vI (lg ⟨false, h, I2⟩ N5))))))
 rintro s ob ⟨G, h, rfl, rfl⟩
 refine Ao h I ?_ ?_
 intro aw h
 refine Aj I ?_
 obtain rfl := O _ (oi h).symm
 have h := N
 have h := Dn h
 refine vP (A7 54 7) (Cd [5] I ?_)
 cases io h
 exact vO ⟨.inr I, [_, _], [.us nS 54 7 ([].map Cg)], J2, Cy I (Cf), ⟨nS, I2⟩⟩
 intro aw h
 refine vL (vH (Af 3 I ?_))
 cases io h
 exact vI ⟨_, _, _, I, I2, J8, pk N5⟩
 intro ap h
 obtain rfl := O _ (oi h).symm
 have h := N
 have h := Do h
 exact vQ (lg ⟨(), h, I2⟩ N5)
 rintro s ob ⟨M, h, rfl, rfl⟩
 refine vM ?_
 obtain ⟨ax, ay, h⟩ := Ac h
 refine vH (Al 7 [.o 0 0, .o 1 1, .o 2 2] I J3 (wD (Av [3, 4] (K := [U3 D i.1, U3 E j.1]) I [(14, Q6 i.1), (16, Q6 j.1), (90, Q6 i.1), (91, Q6 j.1)] ⟨⟨_, I, .us 0 I⟩, ⟨_, I, .us 1 I⟩, ⟨_, I, .us 0 I⟩, ⟨_, I, .us 1 I⟩, J⟩ (ob' := [O0 w [Ab a], O4 A [Bs b], O1 B [Ak e]]) (.rest _)) (vJ [] I (Bp I I I (gR _ _ _ _ _ _ _ _ ay) dS ?_))))
 rintro _ _ ⟨S, rfl, rfl⟩
 refine Af 4 I (vI (Cd [3] I ?_))
 cases io h
 exact vO ⟨.inr I, [_, _], [U2 S ax.1], J2, Cy I (Cf), ⟨S, I2⟩⟩
theorem gP (c : Nw) (i : Desk) (t : Int) (u : Int) (r : (List Step) × Int) (h : Od c i t u = some r) : ACalls Ai 34 [.agg (Ab c), .agg (Bs i), .V t, .V u] [] (fun x new => ∃ (w : Value), x = .tup [.v w, .V r.2] ∧ new = [U2 w r.1]) := by
 refine Ag Tryz.func34 I I I fun C hC => ?_
 unfold Od at h
 refine Aa fun y1 M => vH (vJ [] I (Bh (Ab c) 6 fun y => vJ [] I (Bh (Bs i) 4 fun z => Af 2 I (vI ?_))))
 subst M
 refine Ah (fun s ob => ∃ (a : Li × Li × (List Bool)) (j : Nat) (k : Value) (n : Value) (p : Value), Od.J1 c i t u a = some r ∧ s = [(10, .P j)] ∧ ob = [O0 y [Ab c], O4 z [Bs i], U0 k a.1, U0 n a.2.1, U1 p a.2.2, O1 j [[.v k, .v n, .v p]]]) (K4 2 3 4 5) J4 ?_ ?_
 obtain ⟨A, ⟨ad, O, P, Q⟩, h⟩ := Fo h
 obtain ⟨B, ⟨ae, R, S, U⟩, h⟩ := Fo h
 obtain ⟨D, ⟨af, W, X, Y⟩, h⟩ := Fo h
 refine Bi (sl 3 0 (sl 3 4 (sl 3 8 (.par [(3, []), (7, []), (11, []), (13, []), (12, [3, 7, 11])] (.act 14 .nil))))) [0] [_] I (Br 9 [.o 1 0, .l 2 (c.Segments.length : Int), .o 4 0, .l 5 (c.Ports.length : Int), .o 7 0, .l 8 (c.Stations.length : Int)] I ⟨A8, I, A8, I, A8, I, J⟩ (AP.any [⟨3, [], 14, .us 3 1 (A.map rI)⟩, ⟨7, [], 18, .us 3 1 (B.map rI)⟩, ⟨11, [], 22, .us 4 1 (D.map rB)⟩, ⟨13, [], 10, .box 37 3 (W0)⟩, ⟨12, [3, 7, 11], 23, .fn fun l => match l with | [.v d, .v e, .v g] => .agg [.v d, .v e, .v g] | _ => .tup []⟩] I ⟨⟨_, I, I, I, fun _ => Dq (sz := 1) I I I I I I I I I I O P (D5 (f := rI) Q I) dS fun v => ⟨_, I, ⟨v, I⟩, I⟩⟩, ⟨_, I, I, I, fun _ => Dq (sz := 1) I I I I I I I I I I R S (D5 (f := rI) U I) dS fun v => ⟨_, I, ⟨v, I⟩, I⟩⟩, ⟨_, I, I, I, fun _ => Dq (sz := 1) I I I I I I I I I I W X (D5 (f := rB) Y I) dS fun v => ⟨_, I, ⟨v, I⟩, I⟩⟩, ⟨_, I, I, I, fun _ => Bm W0 3 fun b => ⟨_, I, ⟨b, I⟩, I⟩⟩, ⟨_, I, I, I, fun d E e F g G _ => Ay (wB (Bd (l := [.v d, .v e, .v g]) Dj (Bu I I (A6 E) I (Bu I I (A6 F) I (Bu I I (A6 G) I (Eb)))))) dS ⟨_, I, I, nb⟩⟩, J⟩ ?_))
 intro d E e F g G Z
 exact AP.same 23 (.agg [.v d, .v e, .v g]) I (vK [5] I I I (A3 5 0 0 [[.v d, .v e, .v g]] I (An (vI (lg ⟨(A, B, D), Z, d, e, g, h, I2⟩ N6)))))
 rintro s ob ⟨a, j, k, n, p, h, rfl, rfl⟩
 refine vM ?_
 obtain ⟨aa, ab, h⟩ := Ac h
 refine vH (Al 5 [.o 0 0, .o 1 1, .o 2 5] I J3 (wD (Av [2, 3, 4] (K := [U0 k a.1, U0 n a.2.1, U1 p a.2.2]) I [(26, .agg [Q0 a.1, Q0 a.2.1, Q2 a.2.2])] ⟨⟨_, I, .agg (.cons (.us 0 I) (.cons (.us 1 I) (.cons (.us 2 I) (.rest _))))⟩, J⟩ (ob' := [O0 y [Ab c], O4 z [Bs i], O1 j [[Q0 a.1, Q0 a.2.1, Q2 a.2.2]]]) (.cons (.same _) (.cons (.same _) (.cons (.arr (.cons (.us 0 I) (.cons (.us 1 I) (.cons (.us 2 I) (.rest _))))) (.rest _))))) (vJ [] I (Bp I I I (V0 _ _ _ _ _ _ ab) dS ?_))))
 rintro _ _ ⟨H, rfl, rfl⟩
 refine Af 4 I (vI (Cd [3] I ?_))
 cases io h
 exact vO ⟨.inr I, [_, _], [U2 H aa.1], J2, Cy I (Cf), ⟨H, I2⟩⟩
theorem Wi (d : List Step) (r : Int) (h : Sc d = some r) : ACalls Ai 36 [Q9 d] [] (RV (.V r)) := by
 refine Ag Tryz.func36 I I I fun C hC => ?_
 unfold Sc at h
 refine Aj I (Aj I (Ah (fun s ob => ∃ (e : Int), Sc.J1 e = some r ∧ s = [(3, .V e)] ∧ ob = []) [] J ?_ ?_))
 refine Aj I (vN ?_)
 obtain ⟨w, j, k⟩ := Ac h
 refine Bo j [(0, _)] J1 (fun (b : Int × Int) s ob => s = [(3, .V b.1), (4, .V b.2)] ∧ ob = []) ⟨I, I⟩ ⟨I, I, J⟩ (pk []) ?_
 rintro b m s ob ⟨rfl, rfl⟩ h n
 refine Aa fun y o => Bl [.l 2 (d.length : Int)] I ⟨A8, J⟩ (Ao h I ?_ ?_)
 intro t h
 refine vL ?_
 subst o
 refine Ah (fun s ob => ∃ (f : Int), Sc.J3 b f = some m ∧ s = [(3, .V f)] ∧ ob = []) (K2 0 4) J2 ?_ ?_
 refine vN (Aa fun A u => ?_)
 obtain ⟨a, ⟨g, i⟩, h⟩ := Ba h
 refine Hm [.x 2 a.1 (Cg a.2)] I ⟨⟨g, Ae i⟩, J⟩ ?_
 subst u
 refine D2 26 ((a.2.Kind == 5) && decide (a.2.Value ≥ (-4611686018427387904))) ?_ ?_
 refine vH (Al 7 [.x 2 a.1 (Cg a.2)] I ⟨⟨g, Ae i⟩, J⟩ ?_)
 rcases bt ((a.2.Kind == 5)) with c | c
 exact Ad 23 I c (Af 3 I (vI (jf (by simp only [c, bz]) I I I2)))
 exact Ad 23 I c (Af 3 I (vI (jf (by simp only [c, bz]) I I I2)))
 refine Ao h I ?_ ?_
 intro v h
 exact vH (Af 4 I (Ch (Zx I I I) I (Af 1 I (vI (lg ⟨(max (max b.1 a.2.Value) (wr (0 - a.2.Value))), h, I2⟩ [])))))
 intro v h
 exact vL (lg ⟨b.1, h, I2⟩ [])
 rintro s ob ⟨f, h, rfl, rfl⟩
 unfold Sc.J3 at h
 refine vH (Af 3 I ?_)
 cases io h
 exact vI ⟨_, _, _, I, I2, J3, pk []⟩
 intro t h
 obtain rfl := n _ (oi h).symm
 have h := k
 exact vQ (lg ⟨b.1, h, I2⟩ [])
 rintro s ob ⟨e, h, rfl, rfl⟩
 unfold Sc.J1 at h
 refine Aj I ?_
 cases io h
 exact vO pr
theorem fV (a : Step) (b : Step) (r : Bool) (h : Rd a b = some r) : ACalls Ai 81 [.agg (Cg a), .agg (Cg b)] [] (RB r) := by
 refine Ag Tryz.func81 I I I fun C hC => ?_
 unfold Rd at h
 refine Aa fun p k => vH (vJ [] I (Bh (Cg a) 7 fun t => vJ [] I (Bh (Cg b) 7 fun u => Af 1 I (vI ?_))))
 subst k
 refine Ah (fun s ob => ∃ (j : Bool), Rd.J1 j = some r ∧ s = [(4, .v (.bool j))] ∧ ob = []) [] J ?_ ?_
 refine vH (Al 6 [.o 1 0, .o 3 1] I J2 ?_)
 rcases bt ((a.Kind == b.Kind)) with g | g
 have h := B0 g h
 refine Ad 10 I g ?_
 rcases bt ((a.Index == b.Index)) with e | e
 have h := B0 e h
 rcases bt ((a.Value == b.Value)) with f | f
 have h := B0 f h
 rcases bt ((a.Path.Rate == b.Path.Rate)) with i | i
 have h := B0 i h
 obtain ⟨l, n, h⟩ := Ac h
 refine Al 7 [.o 1 0, .o 3 1] I J2 (Ad 17 I e (Al 7 [.o 1 0, .o 3 1] I J2 (Ad 24 I f (Al 9 [.o 2 0, .o 5 1] I J2 (Ad 33 I i (Af 1 I (Bf I I I (vS (Bv 0 0 3 I I I I I (y := .agg (Az a.Path)) I) I (Af 1 I (Bf I I I (vS (Bv 1 0 3 I I I I I (y := .agg (Az b.Path)) I) I (Bf I I I ?_))))))))))))
 exact vU (V2 _ _ _ n) (Af 2 I (vI (lg ⟨l, h, I2⟩ [])))
 have h := B8 i h
 exact Al 7 [.o 1 0, .o 3 1] I J2 (Ad 17 I e (Al 7 [.o 1 0, .o 3 1] I J2 (Ad 24 I f (Al 9 [.o 2 0, .o 5 1] I J2 (Ad 33 I i (Af 7 I (vI (lg ⟨false, h, I2⟩ []))))))))
 have h := B8 f h
 exact Al 7 [.o 1 0, .o 3 1] I J2 (Ad 17 I e (Al 7 [.o 1 0, .o 3 1] I J2 (Ad 24 I f (Af 16 I (vI (lg ⟨false, h, I2⟩ []))))))
 have h := B8 e h
 exact Al 7 [.o 1 0, .o 3 1] I J2 (Ad 17 I e (Af 23 I (vI (lg ⟨false, h, I2⟩ []))))
 have h := B8 g h
 exact Ad 10 I g (Af 30 I (vI (lg ⟨false, h, I2⟩ [])))
 rintro s ob ⟨j, h, rfl, rfl⟩
 unfold Rd.J1 at h
 cases io h
 exact vO pr
theorem F4 (a : List Step) (b : List Step) (r : Bool) (h : Rn a b = some r) : ACalls Ai 35 [Q9 a, Q9 b] [] (RB r) := by
 refine Ag Tryz.func35 I I I fun C hC => ?_
 refine Aj I (Aa fun D k => Bl [.l 1 (a.length : Int), .l 3 (b.length : Int)] I ⟨A8, A8, J⟩ (Ao h I ?_ ?_))
 intro m h
 refine Aj I ?_
 cases io h
 exact vO pr
 intro m h
 refine vL ?_
 subst k
 refine Ah (fun s ob => ∃ (d : Unit), Rn.J1 d = some r ∧ s = [] ∧ ob = []) [] J ?_ ?_
 refine Aj I (vN ?_)
 obtain ⟨E, n, e⟩ := Ac h
 refine Bo n (K2 0 1) J2 (fun (f : Int) s ob => s = [(5, .V f)] ∧ ob = []) ⟨I, I⟩ ⟨I, J⟩ (pk []) ?_
 rintro f F s ob ⟨rfl, rfl⟩ h g
 refine Aa fun G o => Bl [.l 2 (a.length : Int)] I ⟨A8, J⟩ (Ao h I ?_ ?_)
 intro p h
 refine vL ?_
 subst o
 refine vM (vN (vM ?_))
 obtain ⟨i, ⟨t, u⟩, h⟩ := Ba h
 obtain ⟨j, ⟨w, y⟩, h⟩ := Ba h
 obtain ⟨H, A, h⟩ := Ac h
 refine Bi (pd 10 0 [8]) [] [] I (Br 8 [.x 2 i.1 (Cg i.2), .x 6 j.1 (Cg j.2)] I ⟨⟨w, Ae y⟩, ⟨t, Ae u⟩, J⟩ (wE I (fV _ _ _ A) (A9 1 I (An (vI (Ao h I ?_ ?_))))))
 intro B h
 refine Aj I ?_
 obtain rfl := g _ (oi h).symm
 have h := e
 have h := Dn h
 cases io h
 exact vO pr
 intro B h
 refine vL (vH (Af 3 I ?_))
 cases io h
 exact vI ⟨_, _, _, I, I2, J3, pk []⟩
 intro p h
 obtain rfl := g _ (oi h).symm
 have h := e
 have h := Do h
 exact vQ (lg ⟨(), h, I2⟩ [])
 rintro s ob ⟨d, h, rfl, rfl⟩
 unfold Rn.J1 at h
 refine Aj I ?_
 cases io h
 exact vO pr
theorem Ku (a : Nat) (c : KS) (b : List Bt) (r : Bt × KS) (h : Ol c b = some r) : ACalls Ai 76 [.P a, Q1 b] [O2 a [Ca c]] (E7 1 fun x os new => x = .v (.string r.1) ∧ os = [O2 a [Ca r.2]] ∧ new = []) := by
 refine Ag Tryz.func76 I I I fun C hC => ?_
 refine Aj I (vM ?_)
 obtain ⟨d, f, h⟩ := Ac h
 obtain ⟨e, ⟨g, i⟩, h⟩ := Ba h
 refine vH (Al 4 [.l 3 (b.length : Int)] I ⟨A8, J⟩ (vJ [0] I (A1 [0] (Bz a _ _ _ f) ?_)))
 refine Al 3 [.x 0 e.1 (rS e.2)] I ⟨⟨g, Ae i⟩, J⟩ (vI ?_)
 obtain rfl := oi h
 exact vO ⟨.inr I, [_], [O2 a [Ca d.2]], J1, Cy I (Cf), ⟨[O2 a [Ca d.2]], [], I5⟩⟩
theorem jG (g : Nat) (U : KS) (b : Nw) (r : Nw × KS) (h : Xr U b = some r) : ACalls Ai 29 [.P g, .agg (Ab b)] [O2 g [Ca U]] (E7 1 fun x os new => x = .agg (Ab r.1) ∧ os = [O2 g [Ca r.2]] ∧ new = []) := by
 refine Ag Tryz.func29 I I I fun C hC => ?_
 refine Aa fun y1 bi => vH (vJ [] I (Bh (Ab b) 6 fun D => vJ [] I (Bm W3 6 fun E => vI ?_)))
 subst bi
 refine AW.left (s' := [(0, .P g), (3, .P D), (4, .P E)]) (ob' := [O2 g [Ca U], O0 D [Ab b], O0 E [W3]]) ⟨J3, pk N3⟩ (Aa fun y4 bj => ?_)
 obtain ⟨t, bk, h⟩ := Ac h
 refine vH (vJ [] I (vW (sz := 1) (es := ([] : List Bt).map rS) I I I I I I I I I I I dS fun v5 => Al 2 [.o 1 1] I J1 (vJ [3] I (vV 3 I bk fun i => Af 1 I (wC 3 I fun bl => vJ [1] I (vT 1 0 0 (es' := [[.v i, Q5 b.Segments, Q4 b.Ports, Q3 b.Stations, .V b.Vapour, .V b.Settle]]) I I I I I I (A6 bl) I (A4 I) I I (vI ?_)))))))
 subst bj
 refine AW.left (s' := [(0, .P g), (3, .P D), (4, .P E)]) (ob' := [O2 g [Ca U], O0 D [[.v i, Q5 b.Segments, Q4 b.Ports, Q3 b.Stations, .V b.Vapour, .V b.Settle]], O0 E [W3], U5 i t]) ⟨J3, pk N4⟩ (Aa fun y9 bm => ?_)
 obtain ⟨H, bn, h⟩ := Ac h
 refine vH (vJ [] I (vW (sz := 7) (es := ([] : List Sg).map Ap) I I I I I I I I I I I dS fun d6 => Al 2 [.o 1 1] I J1 (vJ [4] I (vV 4 I bn fun k => Af 1 I (wC 4 I fun bo => vJ [1] I (vT 1 0 1 (es' := [[.v i, .v k, Q4 b.Ports, Q3 b.Stations, .V b.Vapour, .V b.Settle]]) I I I I I I (A6 bo) I (A4 I) I I (vI ?_)))))))
 subst bm
 refine AW.left (s' := [(0, .P g), (3, .P D), (4, .P E)]) (ob' := [O2 g [Ca U], O0 D [[.v i, .v k, Q4 b.Ports, Q3 b.Stations, .V b.Vapour, .V b.Settle]], O0 E [W3], U5 i t, U7 k H]) ⟨J3, pk N5⟩ (Aa fun d7 bp => ?_)
 obtain ⟨u, bq, h⟩ := Ac h
 refine vH (vJ [] I (vW (sz := 3) (es := ([] : List Port).map Cc) I I I I I I I I I I I dS fun d8 => Al 2 [.o 1 1] I J1 (vJ [5] I (vV 5 I bq fun w => Af 1 I (wC 5 I fun br => vJ [1] I (vT 1 0 2 (es' := [[.v i, .v k, .v w, Q3 b.Stations, .V b.Vapour, .V b.Settle]]) I I I I I I (A6 br) I (A4 I) I I (vI ?_)))))))
 subst bp
 refine AW.left (s' := [(0, .P g), (3, .P D), (4, .P E)]) (ob' := [O2 g [Ca U], O0 D [[.v i, .v k, .v w, Q3 b.Stations, .V b.Vapour, .V b.Settle]], O0 E [W3], U5 i t, U7 k H, U8 w u]) ⟨J3, pk N6⟩ (Aa fun d9 bs => ?_)
 obtain ⟨A, bt, h⟩ := Ac h
 refine vH (vJ [] I (vW (sz := 5) (es := ([] : List Sn).map Bn) I I I I I I I I I I I dS fun ea => Al 2 [.o 1 1] I J1 (vJ [6] I (vV 6 I bt fun j => Af 1 I (wC 6 I fun bu => vJ [1] I (vT 1 0 3 (es' := [[.v i, .v k, .v w, .v j, .V b.Vapour, .V b.Settle]]) I I I I I I (A6 bu) I (A4 I) I I (vI ?_)))))))
 subst bs
 refine AW.left (s' := [(0, .P g), (3, .P D), (4, .P E)]) (ob' := [O2 g [Ca U], O0 D [[.v i, .v k, .v w, .v j, .V b.Vapour, .V b.Settle]], O0 E [W3], U5 i t, U7 k H, U8 w u, U9 j A]) ⟨J3, pk N7⟩ (Aa fun eb bv => ?_)
 obtain ⟨aw, bw, h⟩ := Ac h
 refine vH (Al 3 [.o 2 1] I J1 (vS (By 4 I I I I) I (vJ [0] I (A1 [0] (Bz g _ _ _ bw) ?_))))
 refine Af 1 I (vI ?_)
 subst bv
 refine AW.left (s' := [(0, .P g), (3, .P D), (4, .P E), (5, .V aw.1)]) (ob' := [O2 g [Ca aw.2], O0 D [[.v i, .v k, .v w, .v j, .V b.Vapour, .V b.Settle]], O0 E [W3], U5 i t, U7 k H, U8 w u, U9 j A]) ⟨J4, pk N7⟩ (Aa fun ec bx => ?_)
 obtain ⟨a, ⟨a0, ag⟩, h⟩ := Ba h
 refine vH (Al 3 [.o 1 1] I J1 (vS (Bb 4 (m := a.1) I I I I I I I a0 (Ae ag)) I (vS (Au 4 a.1 0 I I I (Ae ag) I (y := .agg (Ap a.2)) I) I (vJ [] I (Bm W4 7 fun X => vJ [7] I (A3 7 0 0 [Ap a.2] I (vI ?_)))))))
 subst bx
 refine Aa fun ed bz => ?_
 obtain ⟨B, b1, h⟩ := Ac h
 refine vH (vJ [] I (vW (sz := 3) (es := ([] : List Point).map C1) I I I I I I I I I I I dS fun ee => Al 2 [.o 1 7] I J1 (vJ [8] I (vV 8 I b1 fun n => Af 1 I (wC 8 I fun b4 => vJ [7] I (vT 7 0 6 (es' := [[.v (.string a.2.Name), .V a.2.From, .V a.2.To, .V a.2.Capacity, .V a.2.Resist, .V a.2.Wave, .v n]]) I I I I I I (A6 b4) I (A4 I) I I (vI ?_)))))))
 subst bz
 refine Ah (fun s ob => ∃ (e : Li × Int × (List Bt) × (List Port) × (List Sn) × Int × Int × Int × Int × Int × Int × (List Point)) (M : Value) (O : Value) (ah : Value), Xr.J1 H a e = some r ∧ s = [] ∧ ob = [O2 g [[Q0 e.1, .V e.2.1]], O0 D [[.v M, .v k, .v w, .v O, .V e.2.2.2.2.2.1, .V e.2.2.2.2.2.2.1]], O0 E [W3], U5 M e.2.2.1, U7 k H, U8 w e.2.2.2.1, U9 O e.2.2.2.2.1, O9 X [[.v (.string a.2.Name), .V e.2.2.2.2.2.2.2.1, .V a.2.To, .V e.2.2.2.2.2.2.2.2.1, .V e.2.2.2.2.2.2.2.2.2.1, .V e.2.2.2.2.2.2.2.2.2.2.1, .v ah]], qP ah e.2.2.2.2.2.2.2.2.2.2.2]) (K4 3 4 5 6) J4 ?_ ?_
 refine Aa fun ef b5 => ?_
 obtain ⟨Y, b6, h⟩ := Ac h
 refine vH (Af 1 I (vJ [0] I (A1 [0] (Bz g _ _ _ b6) ?_)))
 refine vI ?_
 subst b5
 refine vN (Aj I (Ao h I ?_ ?_))
 intro b7 h
 obtain ⟨eg, a1, h⟩ := Ac h
 obtain ⟨P, a2, h⟩ := Ac h
 obtain ⟨W, ⟨a3, aa⟩, h⟩ := Ba h
 refine D4 3 I fun b8 => Bw 3 W.1 I aa fun a4 => Bi (sl 6 0 (.still 7 (.two 6 8 (.act 8 (.act 9 (.act 10 (.act 11 .nil)))) (.act 6 (.act 9 (.act 10 (.act 11 .nil))))))) [1] [_] I (Br 5 [.o 1 0, .o 4 0] I J2 (vX I (D3 I I I b8) I (A9 1 I (vY ?_ ?_))))
 refine vK [0] I I I (A1 [0] (Bz g _ _ _ a1) ?_)
 refine vK [] I I I (vR 1 (([(⟨#[]⟩ : Bt), (⟨#[110, 97]⟩ : Bt), (⟨#[65]⟩ : Bt), (⟨#[120, 45, 57]⟩ : Bt)] : List Bt).map rS) (vK [0] I I I (A1 [0] (Ku g _ _ _ a2) ?_)))
 exact vK [] I I I (Ay (wB (Aq (m := W.1) I I I I I a4 I a3 aa)) dS (vK [3] I I I (Bg 3 W.1 0 I I I (Ae aa) I I I I (A4 I) I (Ci (x := P.1) I) (An (vI (lg ⟨(P.2.L_, P.2.At, (t.set W.1 P.1), u, A, b.Vapour, b.Settle, a.2.From, a.2.Capacity, a.2.Resist, a.2.Wave, B), i, j, n, h, I2⟩ N9))))))
 refine vK [] I I I (vR 1 (([(⟨#[]⟩ : Bt), (⟨#[110, 97]⟩ : Bt), (⟨#[65]⟩ : Bt), (⟨#[120, 45, 57]⟩ : Bt)] : List Bt).map rS) (vK [0] I I I (A1 [0] (Bz g _ _ _ a1) ?_)))
 refine vK [0] I I I (A1 [0] (Ku g _ _ _ a2) ?_)
 exact vK [] I I I (Ay (wB (Aq (m := W.1) I I I I I a4 I a3 aa)) dS (vK [3] I I I (Bg 3 W.1 0 I I I (Ae aa) I I I I (A4 I) I (Ci (x := P.1) I) (An (vI (lg ⟨(P.2.L_, P.2.At, (t.set W.1 P.1), u, A, b.Vapour, b.Settle, a.2.From, a.2.Capacity, a.2.Resist, a.2.Wave, B), i, j, n, h, I2⟩ N9))))))
 intro b7 h
 refine Aj I (Ao h I ?_ ?_)
 intro b9 h
 obtain ⟨ai, ca, h⟩ := Ac h
 refine vH (Al 5 [.o 2 7, .o 4 1] I J2 (vS (By 3 I I I I) I (vJ [] I (vR 1 (([(-1), a.2.To, (t.length : Int), 0] : Li).map rI) (vJ [0] I (A1 [0] (Am g _ _ _ ca) ?_))))))
 exact Af 1 I (vJ [7] I (A3 7 0 1 [[.v (.string a.2.Name), .V ai.1, .V a.2.To, .V a.2.Capacity, .V a.2.Resist, .V a.2.Wave, .v n]] I (vI (lg ⟨(ai.2.L_, ai.2.At, t, u, A, b.Vapour, b.Settle, ai.1, a.2.Capacity, a.2.Resist, a.2.Wave, B), i, j, n, h, I2⟩ N9))))
 intro b9 h
 refine Aj I (Ao h I ?_ ?_)
 intro cb h
 obtain ⟨aj, cc, h⟩ := Ac h
 refine vH (Al 4 [.o 2 7] I J1 (vJ [] I (vR 1 (([0, (-1), wr (a.2.Capacity + 1), 1000001] : Li).map rI) (vJ [0] I (A1 [0] (Am g _ _ _ cc) ?_)))))
 exact Af 1 I (vJ [7] I (A3 7 0 3 [[.v (.string a.2.Name), .V a.2.From, .V a.2.To, .V aj.1, .V a.2.Resist, .V a.2.Wave, .v n]] I (vI (lg ⟨(aj.2.L_, aj.2.At, t, u, A, b.Vapour, b.Settle, a.2.From, aj.1, a.2.Resist, a.2.Wave, B), i, j, n, h, I2⟩ N9))))
 intro cb h
 refine Aj I (Ao h I ?_ ?_)
 intro cd h
 obtain ⟨ak, ce, h⟩ := Ac h
 refine vH (Af 1 I (vJ [] I (vR 1 (([(-1), 1000, 1001] : Li).map rI) (vJ [0] I (A1 [0] (Am g _ _ _ ce) ?_)))))
 exact Af 1 I (vJ [7] I (A3 7 0 4 [[.v (.string a.2.Name), .V a.2.From, .V a.2.To, .V a.2.Capacity, .V ak.1, .V a.2.Wave, .v n]] I (vI (lg ⟨(ak.2.L_, ak.2.At, t, u, A, b.Vapour, b.Settle, a.2.From, a.2.Capacity, ak.1, a.2.Wave, B), i, j, n, h, I2⟩ N9))))
 intro cd h
 refine Aj I (Ao h I ?_ ?_)
 intro cf h
 obtain ⟨al, ci, h⟩ := Ac h
 refine vH (Af 1 I (vJ [] I (vR 1 (([(-1), 100000, 100001] : Li).map rI) (vJ [0] I (A1 [0] (Am g _ _ _ ci) ?_)))))
 exact Af 1 I (vJ [7] I (A3 7 0 5 [[.v (.string a.2.Name), .V a.2.From, .V a.2.To, .V a.2.Capacity, .V a.2.Resist, .V al.1, .v n]] I (vI (lg ⟨(al.2.L_, al.2.At, t, u, A, b.Vapour, b.Settle, a.2.From, a.2.Capacity, a.2.Resist, al.1, B), i, j, n, h, I2⟩ N9))))
 intro cf h
 refine Aj I (Ao h I ?_ ?_)
 intro cj h
 refine Aa fun eh ck => vH (Al 2 [.o 1 7] I J1 (vS (By 8 I I I I) I (Af 1 I (vI ?_))))
 subst ck
 refine Ao h I ?_ ?_
 intro cl h
 obtain ⟨ei, a5, h⟩ := Ac h
 obtain ⟨Q, a6, h⟩ := Ac h
 obtain ⟨F, ⟨a7, ab⟩, h⟩ := Ba h
 refine D4 8 I fun cm => Bw 8 F.1 I ab fun a8 => Bi (sl 6 0 (sl 3 7 (.two 6 10 (.act 10 rD) (.act 6 rD)))) [7] [_] I (Br 5 [.o 1 0, .o 4 0] I J2 (vX I (D3 I I I cm) I (Br 3 [.o 2 0] I J1 (vY ?_ ?_))))
 refine vK [0] I I I (A1 [0] (Bz g _ _ _ a5) ?_)
 refine vK [] I I I (vR 1 (([(-1), 0, 1, a.2.Capacity] : Li).map rI) (vK [0] I I I (A1 [0] (Am g _ _ _ a6) ?_)))
 exact vK [] I I I (Ay (wB (Aq (m := F.1) I I I I I a8 I a7 ab)) dS (A9 1 I (vK [8] I I I (Bg 8 F.1 0 I I I (Ae ab) I I I I (A4 I) I (Ci (x := (⟨Q.1, F.2.Height, F.2.Limit⟩ : Point)) I) (An (vI (lg ⟨(Q.2.L_, Q.2.At, t, u, A, b.Vapour, b.Settle, a.2.From, a.2.Capacity, a.2.Resist, a.2.Wave, (B.set F.1 (⟨Q.1, F.2.Height, F.2.Limit⟩ : Point))), i, j, n, h, I2⟩ N9)))))))
 refine vK [] I I I (vR 1 (([(-1), 0, 1, a.2.Capacity] : Li).map rI) (vK [0] I I I (A1 [0] (Bz g _ _ _ a5) ?_)))
 refine vK [0] I I I (A1 [0] (Am g _ _ _ a6) ?_)
 exact vK [] I I I (Ay (wB (Aq (m := F.1) I I I I I a8 I a7 ab)) dS (A9 1 I (vK [8] I I I (Bg 8 F.1 0 I I I (Ae ab) I I I I (A4 I) I (Ci (x := (⟨Q.1, F.2.Height, F.2.Limit⟩ : Point)) I) (An (vI (lg ⟨(Q.2.L_, Q.2.At, t, u, A, b.Vapour, b.Settle, a.2.From, a.2.Capacity, a.2.Resist, a.2.Wave, (B.set F.1 (⟨Q.1, F.2.Height, F.2.Limit⟩ : Point))), i, j, n, h, I2⟩ N9)))))))
 intro cl h
 exact vL (lg ⟨(Y.2.L_, Y.2.At, t, u, A, b.Vapour, b.Settle, a.2.From, a.2.Capacity, a.2.Resist, a.2.Wave, B), i, j, n, h, I2⟩ N9)
 intro cj h
 refine Aj I (Ao h I ?_ ?_)
 intro cn h
 obtain ⟨a9, co, h⟩ := Ac h
 obtain ⟨cp, cq, h⟩ := Ac h
 refine D4 8 I fun cr => Bi (sl 8 0 (.act 8 (.act 9 (.still 10 (.drop 11 .nil))))) [7] [_] I (Br 5 [.o 1 0, .o 4 0] I J2 (vX I (D3 I I I cr) I (A9 2 I (vK [0] I I I (A1 [0] (Bz g _ _ _ co) ?_)))))
 exact vK [8] I I I (dX 8 I cq fun ba => A9 1 I (wA 8 I fun ct => vZ [7] I I I (vT 7 0 6 (es' := [[.v (.string a.2.Name), .V a.2.From, .V a.2.To, .V a.2.Capacity, .V a.2.Resist, .V a.2.Wave, .v ba]]) I I I I I I (A6 ct) I (A4 I) I I (An (vI (lg ⟨(a9.2.L_, a9.2.At, t, u, A, b.Vapour, b.Settle, a.2.From, a.2.Capacity, a.2.Resist, a.2.Wave, cp), i, j, ba, h, I2⟩ N9))))))
 intro cn h
 refine Aj I (Ao h I ?_ ?_)
 intro cu h
 refine Aa fun ej cv => vH (Al 2 [.o 1 7] I J1 (vS (By 8 I I I I) I (Af 1 I (vI ?_))))
 subst cv
 refine Ao h I ?_ ?_
 intro cw h
 obtain ⟨ek, bb, h⟩ := Ac h
 obtain ⟨R, bc, h⟩ := Ac h
 obtain ⟨G, ⟨bd, ac⟩, h⟩ := Ba h
 refine D4 8 I fun cx => Bw 8 G.1 I ac fun be => Bi (sl 6 0 (.still 7 (.two 6 8 (.act 8 (.act 9 (.act 10 (.still 11 (.act 12 .nil))))) (.act 6 (.act 9 (.act 10 (.still 11 (.act 12 .nil)))))))) [7] [_] I (Br 5 [.o 1 0, .o 4 0] I J2 (vX I (D3 I I I cx) I (A9 1 I (vY ?_ ?_))))
 refine vK [0] I I I (A1 [0] (Bz g _ _ _ bb) ?_)
 refine vK [] I I I (vR 1 (([(-501), (-500), 5000, 5001] : Li).map rI) (vK [0] I I I (A1 [0] (Am g _ _ _ bc) ?_)))
 exact vK [] I I I (Ay (wB (Aq (m := G.1) I I I I I be I bd ac)) dS (A9 1 I (vK [8] I I I (Bg 8 G.1 1 I I I (Ae ac) I I I I (A4 I) I (Ci (x := (⟨G.2.At, R.1, G.2.Limit⟩ : Point)) I) (An (vI (lg ⟨(R.2.L_, R.2.At, t, u, A, b.Vapour, b.Settle, a.2.From, a.2.Capacity, a.2.Resist, a.2.Wave, (B.set G.1 (⟨G.2.At, R.1, G.2.Limit⟩ : Point))), i, j, n, h, I2⟩ N9)))))))
 refine vK [] I I I (vR 1 (([(-501), (-500), 5000, 5001] : Li).map rI) (vK [0] I I I (A1 [0] (Bz g _ _ _ bb) ?_)))
 refine vK [0] I I I (A1 [0] (Am g _ _ _ bc) ?_)
 exact vK [] I I I (Ay (wB (Aq (m := G.1) I I I I I be I bd ac)) dS (A9 1 I (vK [8] I I I (Bg 8 G.1 1 I I I (Ae ac) I I I I (A4 I) I (Ci (x := (⟨G.2.At, R.1, G.2.Limit⟩ : Point)) I) (An (vI (lg ⟨(R.2.L_, R.2.At, t, u, A, b.Vapour, b.Settle, a.2.From, a.2.Capacity, a.2.Resist, a.2.Wave, (B.set G.1 (⟨G.2.At, R.1, G.2.Limit⟩ : Point))), i, j, n, h, I2⟩ N9)))))))
 intro cw h
 exact vL (lg ⟨(Y.2.L_, Y.2.At, t, u, A, b.Vapour, b.Settle, a.2.From, a.2.Capacity, a.2.Resist, a.2.Wave, B), i, j, n, h, I2⟩ N9)
 intro cu h
 refine Aj I (Ao h I ?_ ?_)
 intro cy h
 refine Aa fun el cz => vH (Al 2 [.o 1 1] I J1 (vS (By 5 I I I I) I (Af 1 I (vI ?_))))
 subst cz
 refine Ao h I ?_ ?_
 intro c1 h
 obtain ⟨bf, c2, h⟩ := Ac h
 obtain ⟨ad, c3, h⟩ := Ac h
 obtain ⟨ae, c4, h⟩ := Ac h
 obtain ⟨af, c5, h⟩ := Ac h
 obtain ⟨am, ⟨c6, ax⟩, h⟩ := Ba h
 refine D4 5 I fun c7 => D4 3 I fun c8 => Bw 5 am.1 I ax fun c9 => Bi (sl 6 0 (.still 7 (sl 4 10 (.still 16 (.parS [(6, []), (8, []), (9, [6, 8]), (14, []), (15, [6, 8, 9, 14]), (17, [])] [[], [6], [8], [14], [17], [6, 8], [6, 14], [6, 17], [8, 14], [8, 17], [14, 17], [6, 8, 9], [6, 8, 14], [6, 8, 17], [6, 14, 17], [8, 14, 17], [6, 8, 9, 14], [6, 8, 9, 17], [6, 8, 14, 17], [6, 8, 9, 14, 15], [6, 8, 9, 14, 17], [6, 8, 9, 14, 15, 17]] (.act 18 (.still 19 (.act 20 (.act 21 .nil))))))))) [1] [_] I (Br 5 [.o 1 0, .o 4 0] I J2 (vX I (D3 I I I c7) I (Br 4 [.o 3 0] I J1 (vX I (D3 I I I c8) I (A9 1 I (Xs [⟨6, [], 174, .V bf.1, [0], [O2 g [Ca bf.2]]⟩, ⟨8, [], 176, .list 1 (([(⟨#[113, 97]⟩ : Bt), (⟨#[113, 98]⟩ : Bt), (⟨#[]⟩ : Bt), (⟨#[122]⟩ : Bt)] : List Bt).map rS), [], []⟩, ⟨9, [6, 8], 177, .v (.string ad.1), [0], [O2 g [Ca ad.2]]⟩, ⟨14, [], 182, .list 1 (([(-1), 0, 1, (t.length : Int)] : Li).map rI), [], []⟩, ⟨15, [6, 8, 9, 14], 183, .V ae.1, [0], [O2 g [Ca ae.2]]⟩, ⟨17, [], 185, .list 1 (([0, (-1), 100000000, 100000001] : Li).map rI), [], []⟩] I ⟨⟨_, I, I, I, fun _ h => by cases h; exact Es [0] (Bz g _ _ _ c2) (by rintro _ _ _ - ⟨rfl, rfl, rfl⟩; exact ⟨rfl, rfl⟩)⟩, ⟨_, I, I, I, fun _ _ => vR 1 (([(⟨#[113, 97]⟩ : Bt), (⟨#[113, 98]⟩ : Bt), (⟨#[]⟩ : Bt), (⟨#[122]⟩ : Bt)] : List Bt).map rS) I2⟩, ⟨_, I, I, I, fun _ h => by cases h; exact Es [0] (Ku g _ _ _ c3) (by rintro _ _ _ - ⟨rfl, rfl, rfl⟩; exact ⟨rfl, rfl⟩)⟩, ⟨_, I, I, I, fun _ _ => vR 1 (([(-1), 0, 1, (t.length : Int)] : Li).map rI) I2⟩, ⟨_, I, I, I, fun _ h => by cases h; exact Es [0] (Am g _ _ _ c4) (by rintro _ _ _ - ⟨rfl, rfl, rfl⟩; exact ⟨rfl, rfl⟩)⟩, ⟨_, I, I, I, fun _ _ => vR 1 (([0, (-1), 100000000, 100000001] : Li).map rI) I2⟩, J⟩ ?_))))))
 refine vK [0] I I I (A1 [0] (Am g _ _ _ c5) ?_)
 exact Lh I (Bd (l := [.v (.string ad.1), .V ae.1, .V af.1]) Hh I) I (vK [] I I I (Ay (wB (Aq (m := am.1) I I I I I c9 I c6 ax)) dS (vK [5] I I I (Bg 5 am.1 0 I I I (Ae ax) I I I I (A4 I) I (Ci (x := (⟨ad.1, ae.1, af.1⟩ : Port)) I) (An (vI (lg ⟨(af.2.L_, af.2.At, t, (u.set am.1 (⟨ad.1, ae.1, af.1⟩ : Port)), A, b.Vapour, b.Settle, a.2.From, a.2.Capacity, a.2.Resist, a.2.Wave, B), i, j, n, h, I2⟩ N9)))))))
 intro c1 h
 exact vL (lg ⟨(Y.2.L_, Y.2.At, t, u, A, b.Vapour, b.Settle, a.2.From, a.2.Capacity, a.2.Resist, a.2.Wave, B), i, j, n, h, I2⟩ N9)
 intro cy h
 refine Aj I (Ao h I ?_ ?_)
 intro da h
 obtain ⟨an, db, h⟩ := Ac h
 obtain ⟨ao, dc, h⟩ := Ac h
 obtain ⟨aq, dd, h⟩ := Ac h
 obtain ⟨ar, de, h⟩ := Ac h
 obtain ⟨au, df, h⟩ := Ac h
 obtain ⟨dg, dh, h⟩ := Ac h
 refine Bi (sl 3 0 (.still 5 (.still 8 (.still 11 (.still 14 (.parS [(3, []), (4, [3]), (6, []), (7, [3, 4, 6]), (9, []), (10, [3, 4, 6, 7, 9]), (12, []), (13, [3, 4, 6, 7, 9, 10, 12]), (15, [])] [[], [3], [6], [9], [12], [15], [3, 4], [3, 6], [3, 9], [3, 12], [3, 15], [6, 9], [6, 12], [6, 15], [9, 12], [9, 15], [12, 15], [3, 4, 6], [3, 4, 9], [3, 4, 12], [3, 4, 15], [3, 6, 9], [3, 6, 12], [3, 6, 15], [3, 9, 12], [3, 9, 15], [3, 12, 15], [6, 9, 12], [6, 9, 15], [6, 12, 15], [9, 12, 15], [3, 4, 6, 7], [3, 4, 6, 9], [3, 4, 6, 12], [3, 4, 6, 15], [3, 4, 9, 12], [3, 4, 9, 15], [3, 4, 12, 15], [3, 6, 9, 12], [3, 6, 9, 15], [3, 6, 12, 15], [3, 9, 12, 15], [6, 9, 12, 15], [3, 4, 6, 7, 9], [3, 4, 6, 7, 12], [3, 4, 6, 7, 15], [3, 4, 6, 9, 12], [3, 4, 6, 9, 15], [3, 4, 6, 12, 15], [3, 4, 9, 12, 15], [3, 6, 9, 12, 15], [3, 4, 6, 7, 9, 10], [3, 4, 6, 7, 9, 12], [3, 4, 6, 7, 9, 15], [3, 4, 6, 7, 12, 15], [3, 4, 6, 9, 12, 15], [3, 4, 6, 7, 9, 10, 12], [3, 4, 6, 7, 9, 10, 15], [3, 4, 6, 7, 9, 12, 15], [3, 4, 6, 7, 9, 10, 12, 13], [3, 4, 6, 7, 9, 10, 12, 15], [3, 4, 6, 7, 9, 10, 12, 13, 15]] (.act 16 (.still 17 (.act 18 (.act 19 (.still 20 (.drop 21 .nil)))))))))))) [1] [_] I (Br 7 [.o 1 0] I J1 (Xs [⟨3, [], 194, .list 1 (([(⟨#[115, 97]⟩ : Bt), (⟨#[115, 122]⟩ : Bt), (⟨#[]⟩ : Bt)] : List Bt).map rS), [], []⟩, ⟨4, [3], 195, .v (.string an.1), [0], [O2 g [Ca an.2]]⟩, ⟨6, [], 197, .list 1 (([(-1), 0, 0, 1, 99] : Li).map rI), [], []⟩, ⟨7, [3, 4, 6], 198, .V ao.1, [0], [O2 g [Ca ao.2]]⟩, ⟨9, [], 200, .list 1 (([0, (-1)] : Li).map rI), [], []⟩, ⟨10, [3, 4, 6, 7, 9], 201, .V aq.1, [0], [O2 g [Ca aq.2]]⟩, ⟨12, [], 203, .list 1 (([0, 100001] : Li).map rI), [], []⟩, ⟨13, [3, 4, 6, 7, 9, 10, 12], 204, .V ar.1, [0], [O2 g [Ca ar.2]]⟩, ⟨15, [], 206, .list 1 (([0, (-1)] : Li).map rI), [], []⟩] I ⟨⟨_, I, I, I, fun _ _ => vR 1 (([(⟨#[115, 97]⟩ : Bt), (⟨#[115, 122]⟩ : Bt), (⟨#[]⟩ : Bt)] : List Bt).map rS) I2⟩, ⟨_, I, I, I, fun _ h => by cases h; exact Es [0] (Ku g _ _ _ db) (by rintro _ _ _ - ⟨rfl, rfl, rfl⟩; exact ⟨rfl, rfl⟩)⟩, ⟨_, I, I, I, fun _ _ => vR 1 (([(-1), 0, 0, 1, 99] : Li).map rI) I2⟩, ⟨_, I, I, I, fun _ h => by cases h; exact Es [0] (Am g _ _ _ dc) (by rintro _ _ _ - ⟨rfl, rfl, rfl⟩; exact ⟨rfl, rfl⟩)⟩, ⟨_, I, I, I, fun _ _ => vR 1 (([0, (-1)] : Li).map rI) I2⟩, ⟨_, I, I, I, fun _ h => by cases h; exact Es [0] (Am g _ _ _ dd) (by rintro _ _ _ - ⟨rfl, rfl, rfl⟩; exact ⟨rfl, rfl⟩)⟩, ⟨_, I, I, I, fun _ _ => vR 1 (([0, 100001] : Li).map rI) I2⟩, ⟨_, I, I, I, fun _ h => by cases h; exact Es [0] (Am g _ _ _ de) (by rintro _ _ _ - ⟨rfl, rfl, rfl⟩; exact ⟨rfl, rfl⟩)⟩, ⟨_, I, I, I, fun _ _ => vR 1 (([0, (-1)] : Li).map rI) I2⟩, J⟩ ?_))
 refine vK [0] I I I (A1 [0] (Am g _ _ _ df) ?_)
 exact Lh I (Bd (l := [.v (.string an.1), .V ao.1, .V aq.1, .V ar.1, .V au.1]) Tk I) I (vK [] I I I (vR 5 (([(⟨an.1, ao.1, aq.1, ar.1, au.1⟩ : Sn)] : List Sn).map Bn) (vK [6] I I I (vV 6 I dh fun bg => A9 1 I (wA 6 I fun di => vZ [1] I I I (vT 1 0 3 (es' := [[.v i, .v k, .v w, .v bg, .V b.Vapour, .V b.Settle]]) I I I I I I (A6 di) I (A4 I) I I (An (vI (lg ⟨(au.2.L_, au.2.At, t, u, dg, b.Vapour, b.Settle, a.2.From, a.2.Capacity, a.2.Resist, a.2.Wave, B), i, bg, n, h, I2⟩ N9)))))))))
 intro da h
 refine Aj I (Ao h I ?_ ?_)
 intro dj h
 obtain ⟨ay, dk, h⟩ := Ac h
 obtain ⟨av, dl, h⟩ := Ac h
 refine vH (Af 1 I (vJ [] I (vR 1 (([0, (-100001), 100000001] : Li).map rI) (vJ [0] I (A1 [0] (Am g _ _ _ dk) ?_)))))
 refine Af 1 I (vJ [] I (vR 1 (([0, (-1), 101] : Li).map rI) (vJ [0] I (A1 [0] (Am g _ _ _ dl) ?_))))
 exact Af 1 I (vJ [1] I (A3 1 0 4 [[.v i, .v k, .v w, .v j, .V ay.1, .V b.Settle]] I (Af 1 I (vJ [1] I (A3 1 0 5 [[.v i, .v k, .v w, .v j, .V ay.1, .V av.1]] I (vI (lg ⟨(av.2.L_, av.2.At, t, u, A, ay.1, av.1, a.2.From, a.2.Capacity, a.2.Resist, a.2.Wave, B), i, j, n, h, I2⟩ N9)))))))
 intro dj h
 refine vN ?_
 obtain ⟨em, dm, dn⟩ := Ac h
 refine Bo dm (K5 0 3 4 5 6) J5 (fun (S : Li × Int × (List Bt)) s ob => ∃ (Z : Value), s = [] ∧ ob = [O2 g [[Q0 S.1, .V S.2.1]], O0 D [[.v Z, .v k, .v w, .v j, .V b.Vapour, .V b.Settle]], O0 E [W3], U5 Z S.2.2, U7 k H, U8 w u, U9 j A, O9 X [[.v (.string a.2.Name), .V a.2.From, .V a.2.To, .V a.2.Capacity, .V a.2.Resist, .V a.2.Wave, .v n]], qP n B]) ⟨i, I2⟩ J (pk N9) ?_
 rintro S en s ob ⟨Z, rfl, rfl⟩ h dp
 refine Aa fun eo dq => vM ?_
 obtain ⟨az, dr, h⟩ := Ac h
 refine D4 3 I fun ds => Bi (pd 7 0 [4]) [1] [_] I (Br 2 [.o 1 0] I J1 (vX I (D3 I I I ds) I (A9 1 I (vK [0] I I I (A1 [0] (Bz g _ _ _ dr) ?_)))))
 refine A9 2 I (An (vI (Ao h I ?_ ?_)))
 intro dt h
 refine vL ?_
 subst dq
 refine AW.left (s' := [(0, .P g), (3, .P D), (4, .P E), (5, .V aw.1), (6, .P X)]) (ob' := [O2 g [Ca az.2], O0 D [[.v Z, .v k, .v w, .v j, .V b.Vapour, .V b.Settle]], O0 E [W3], U5 Z S.2.2, U7 k H, U8 w u, U9 j A, O9 X [[.v (.string a.2.Name), .V a.2.From, .V a.2.To, .V a.2.Capacity, .V a.2.Resist, .V a.2.Wave, .v n]], qP n B]) ⟨J5, pk N9⟩ (vN ?_)
 obtain ⟨ep, du, h⟩ := Ac h
 obtain ⟨eq, dv, h⟩ := Ac h
 obtain ⟨dw, dx, h⟩ := Ac h
 obtain ⟨er, dy, h⟩ := Ac h
 refine D4 3 I fun dz => D4 3 I fun d0 => Bi (sl 5 0 (sl 4 6 (.act 5 (.act 10 (.still 11 (.act 12 (.act 13 (.still 14 (.drop 15 .nil))))))))) [1] [_] I (Br 4 [.o 1 0, .o 3 0] I J2 (vX I (D3 I I I dz) I (Br 2 [.o 1 0] I J1 (vX I (D3 I I I d0) I (Br 1 [.f 0 (.V (wr ((S.2.2.length : Int).tdiv 26)))] I ⟨wB (Km (c := wr ((S.2.2.length : Int).tdiv 26)) I I ⟨by decide, I⟩), J⟩ (wE I (C2 _ _ _ du) (wE I (C2 _ _ _ dv) (Lh I (Zy I I (Zs dx)) I (vK [] I I I (vR 1 (([dw] : List Bt).map rS) (vK [3] I I I (vV 3 I dy fun bh => ?_))))))))))))
 refine A9 1 I (wA 3 I fun d1 => vZ [1] I I I (vT 1 0 0 (es' := [[.v bh, .v k, .v w, .v j, .V b.Vapour, .V b.Settle]]) I I I I I I (A6 d1) I (A4 I) I I (An ?_)))
 cases io h
 exact vI ⟨_, _, _, I, ⟨bh, I2⟩, J5, pk N9⟩
 intro dt h
 obtain rfl := dp _ (oi h).symm
 have h := dn
 exact vQ (lg ⟨(az.2.L_, az.2.At, S.2.2, u, A, b.Vapour, b.Settle, a.2.From, a.2.Capacity, a.2.Resist, a.2.Wave, B), Z, j, n, h, I2⟩ N9)
 rintro s ob ⟨e, M, O, ah, h, rfl, rfl⟩
 refine vM (vH (Al 4 [.o 1 1, .o 3 7] I J2 (vS (Bb 4 (m := a.1) I I I I I I I a0 (Ae ag)) I (wD (Av [8] (K := [qP ah e.2.2.2.2.2.2.2.2.2.2.2]) I [(225, .agg [.v (.string a.2.Name), .V e.2.2.2.2.2.2.2.1, .V a.2.To, .V e.2.2.2.2.2.2.2.2.1, .V e.2.2.2.2.2.2.2.2.2.1, .V e.2.2.2.2.2.2.2.2.2.2.1, uL e.2.2.2.2.2.2.2.2.2.2.2])] ⟨⟨_, I, .agg (.cons (.refl _) (.cons (.refl _) (.cons (.refl _) (.cons (.refl _) (.cons (.refl _) (.cons (.refl _) (.cons (.us 0 I) (.rest _))))))))⟩, J⟩ (ob' := [O2 g [[Q0 e.1, .V e.2.1]], O0 D [[.v M, .v k, .v w, .v O, .V e.2.2.2.2.2.1, .V e.2.2.2.2.2.2.1]], O0 E [W3], U5 M e.2.2.1, U7 k H, U8 w e.2.2.2.1, U9 O e.2.2.2.2.1, O9 X [[.v (.string a.2.Name), .V e.2.2.2.2.2.2.2.1, .V a.2.To, .V e.2.2.2.2.2.2.2.2.1, .V e.2.2.2.2.2.2.2.2.2.1, .V e.2.2.2.2.2.2.2.2.2.2.1, uL e.2.2.2.2.2.2.2.2.2.2.2]]]) (.cons (.same _) (.cons (.same _) (.cons (.same _) (.cons (.same _) (.cons (.same _) (.cons (.same _) (.cons (.same _) (.cons (.arr (.cons (.refl _) (.cons (.refl _) (.cons (.refl _) (.cons (.refl _) (.cons (.refl _) (.cons (.refl _) (.cons (.us 0 I) (.rest _))))))))) (.rest _)))))))))) ?_))))
 refine vJ [4] I (Bg 4 a.1 0 I I I (Ae ag) I I I I (A4 I) I (Ci (x := (⟨a.2.Name, e.2.2.2.2.2.2.2.1, a.2.To, e.2.2.2.2.2.2.2.2.1, e.2.2.2.2.2.2.2.2.2.1, e.2.2.2.2.2.2.2.2.2.2.1, e.2.2.2.2.2.2.2.2.2.2.2⟩ : Sg)) I) (vI (vM (vH (Al 1 [.o 0 1] I J1 (vJ [2] I (A3 2 0 0 [[.v M, .v k, .v w, .v O, .V e.2.2.2.2.2.1, .V e.2.2.2.2.2.2.1]] I (vI (vP (Av [3, 4, 5, 6] (K := [U5 M e.2.2.1, .us k 83 7 ((H.set a.1 (⟨a.2.Name, e.2.2.2.2.2.2.2.1, a.2.To, e.2.2.2.2.2.2.2.2.1, e.2.2.2.2.2.2.2.2.2.1, e.2.2.2.2.2.2.2.2.2.2.1, e.2.2.2.2.2.2.2.2.2.2.2⟩ : Sg)).map Ap), U8 w e.2.2.2.1, U9 O e.2.2.2.2.1]) I [] J (ob' := [O2 g [[Q0 e.1, .V e.2.1]], O0 D [[.v M, .v k, .v w, .v O, .V e.2.2.2.2.2.1, .V e.2.2.2.2.2.2.1]], O0 E [[Q1 e.2.2.1, .list 7 ((H.set a.1 (⟨a.2.Name, e.2.2.2.2.2.2.2.1, a.2.To, e.2.2.2.2.2.2.2.2.1, e.2.2.2.2.2.2.2.2.2.1, e.2.2.2.2.2.2.2.2.2.2.1, e.2.2.2.2.2.2.2.2.2.2.2⟩ : Sg)).map Ap), Q4 e.2.2.2.1, Q3 e.2.2.2.2.1, .V e.2.2.2.2.2.1, .V e.2.2.2.2.2.2.1]], O9 X [[.v (.string a.2.Name), .V e.2.2.2.2.2.2.2.1, .V a.2.To, .V e.2.2.2.2.2.2.2.2.1, .V e.2.2.2.2.2.2.2.2.2.1, .V e.2.2.2.2.2.2.2.2.2.2.1, uL e.2.2.2.2.2.2.2.2.2.2.2]]]) (.cons (.same _) (.cons (.same _) (.cons (.arr (.cons (.us 0 I) (.cons (.us 1 I) (.cons (.us 2 I) (.cons (.us 3 I) (.rest _)))))) (.rest _))))) ?_)))))))))
 refine Cd [0, 2] I ?_
 obtain rfl := oi h
 exact vO ⟨.inr I, [_], [O2 g [[Q0 e.1, .V e.2.1]]], ⟨⟨1, _, _, _, _, _, _, _, I5⟩, J⟩, Cy I (Cf), ⟨[O2 g [[Q0 e.1, .V e.2.1]]], [], I5⟩⟩
end Go.Proofs.YtmaamhgjeampmaaGreat
