/- Walks that show what functions of the program compute; printed by a program of ours. No condition. -/
import Derived.Test.YtmaamhgjeampmaaGreatZwL1
import Derived.Test.YtmaamhgjeampmaaGreatZwD
import Derived.Test.YtmaamhgjeampmaaGreatZwB0
set_option maxRecDepth 100000
namespace Go.Proofs.YtmaamhgjeampmaaGreat
open Go.Aw
set_option linter.unusedVariables false
set_option linter.unusedSimpArgs false
set_option maxHeartbeats 4000000
abbrev rL : PL := sl 3 0 (sl 3 4 (sl 3 8 (.par [(3, []), (7, []), (11, []), (13, []), (12, [3, 7, 11])] (.act 14 .nil))))
theorem Ik (a : Valve) (r : Bool) (h : Fq a = r) : ACalls Ai 125 [.agg (A5 a)] [] (RB r) := by
 refine Ag Tryz.func125 I I I fun C hC => ?_
 unfold Fq at h
 refine Aa fun f e => vH (vJ [] I (Bh (A5 a) 4 fun g => Af 1 I (vI ?_)))
 subst e
 refine Ah (fun s ob => s = [(2, .v (.bool (decide (a.Travel ≥ 1) && (decide (a.Travel ≤ 60) && (decide (a.Open ≥ 0) && decide (a.Open ≤ a.Travel))))))] ∧ ob = []) [] J ?_ ?_
 refine vH (Al 4 [.o 1 0] I J1 ?_)
 rcases bt (decide (a.Travel ≥ 1)) with b | b
 refine Ad 6 I b (Al 5 [.o 1 0] I J1 ?_)
 rcases bt (decide (a.Travel ≤ 60)) with c | c
 refine Ad 11 I c (Al 5 [.o 1 0] I J1 ?_)
 rcases bt (decide (a.Open ≥ 0)) with d | d
 refine Ad 16 I d (Al 7 [.o 1 0, .o 3 0] I J2 (vI ?_))
 exact lf I2 ⟨(D1 (by simp only [b, c, d, bz])), J⟩ [] I
 refine Ad 16 I d (Af 7 I (vI ?_))
 exact lf I2 ⟨(D1 (by simp only [b, c, d, bz])), J⟩ [] I
 refine Ad 11 I c (Af 12 I (vI ?_))
 exact lf I2 ⟨(D1 (by simp only [b, c, bz])), J⟩ [] I
 refine Ad 6 I b (Af 17 I (vI ?_))
 exact lf I2 ⟨(D1 (by simp only [b, bz])), J⟩ [] I
 rintro s ob ⟨rfl, rfl⟩
 obtain rfl := h
 exact vO pr
theorem Pw (a : Valve) (r : Int) (h : Ez a = r) : ACalls Ai 148 [.agg (A5 a)] [] (RV (.V r)) := by
 refine Ag Tryz.func148 I I I fun C hC => ?_
 refine Aa fun d b => vH (vJ [] I (Bh (A5 a) 4 fun e => Af 1 I (vI ?_)))
 subst b
 refine vM (Bl [.o 1 0] I J1 (Ao h I ?_ ?_))
 intro c h
 refine Bl [.o 1 0] I J1 (vP g0 ?_)
 obtain rfl := h
 exact vO pr
 intro c h
 refine vL (Aj I (vP g0 ?_))
 obtain rfl := h
 exact vO pr
theorem iR (a : Valve) (b : Int) (r : Valve) (h : Oq a b = r) : ACalls Ai 147 [.agg (A5 a), .V b] [] (RV (.agg (A5 r))) := by
 refine Ag Tryz.func147 I I I fun C hC => ?_
 unfold Oq at h
 refine Aa fun u e => vH (vJ [] I (Bh (A5 a) 4 fun f => vJ [] I (Bm W5 4 fun g => vI ?_)))
 subst e
 refine Aa fun w i => vH (Al 1 [.o 0 0] I J1 (vJ [] I (Bm W5 4 fun j => vJ [2] I (A3 2 0 0 [A5 a] I (vI ?_)))))
 subst i
 refine Ah (fun s ob => ∃ (d : Int), Oq.J1 a d = r ∧ s = [] ∧ ob = [Yi f [[.V a.Travel, .V d, .v (.bool a.Want), .v (.bool a.Stuck)]], Yi g [W5], Yi j [A5 a]]) (K3 2 4 5) J3 ?_ ?_
 refine Aa fun y k => vH (Al 1 [.o 0 0] I J1 (vU (Pw a _ I) (Af 1 I (vI ?_))))
 subst k
 refine vN (Bl [.o 1 0] I J1 (Ao h I ?_ ?_))
 intro l h
 exact vL (lg ⟨a.Open, h, I2⟩ N3)
 intro l h
 refine Bl [.o 1 0] I J1 (Ao h I ?_ ?_)
 intro n h
 exact vH (Al 7 [.o 2 0] I J1 (vJ [0] I (A3 0 0 1 [[.V a.Travel, .V (min (Ez a) (wr (a.Open + b))), .v (.bool a.Want), .v (.bool a.Stuck)]] I (vI (lg ⟨(min (Ez a) (wr (a.Open + b))), h, I2⟩ N3)))))
 intro n h
 exact vH (Al 7 [.o 2 0] I J1 (vJ [0] I (A3 0 0 1 [[.V a.Travel, .V (max (Ez a) (wr (a.Open - b))), .v (.bool a.Want), .v (.bool a.Stuck)]] I (vI (lg ⟨(max (Ez a) (wr (a.Open - b))), h, I2⟩ N3)))))
 rintro s ob ⟨d, h, rfl, rfl⟩
 refine vM (vM (vH (Al 2 [.o 0 0, .o 1 2] I J2 (Ch (Kb (r := ((a.Travel == a.Travel) && ((d == a.Open) && ((a.Want == a.Want) && ((a.Stuck == a.Stuck) && true))))) I I fP I I I I) I (vI (Ao h I ?_ ?_))))))
 intro t h
 refine vM (vH (Al 1 [.o 0 2] I J1 (vJ [1] I (A3 1 0 0 [A5 a] I (vI (Cd [1] I ?_))))))
 obtain rfl := h
 exact vO ⟨.inr I, [_], [], ⟨⟨0, _, _, _, _, _, _, _, I5⟩, J⟩, Cf, I2⟩
 intro t h
 refine vL (vM (vH (Al 1 [.o 0 0] I J1 (vJ [1] I (A3 1 0 0 [[.V a.Travel, .V d, .v (.bool a.Want), .v (.bool a.Stuck)]] I (vI (Cd [1] I ?_)))))))
 obtain rfl := h
 exact vO ⟨.inr I, [_], [], ⟨⟨0, _, _, _, _, _, _, _, I5⟩, J⟩, Cf, I2⟩
theorem gC (a : Valve) (b : Int) (r : Valve × Int) (h : Cs a b = r) : ACalls Ai 95 [.agg (A5 a), .V b] [] (RV (.tup [.agg (A5 r.1), .V r.2])) := by
 refine Ag Tryz.func95 I I I fun C hC => ?_
 refine Aa fun j e => vH (vJ [] I (Bh (A5 a) 4 fun k => vJ [] I (Bm W5 4 fun l => Af 1 I (vI ?_))))
 subst e
 refine vM (vN (Aa fun n f => vH (Al 1 [.o 0 0] I J1 (vU (Ik a _ I) (Af 2 I (vI ?_))))))
 subst f
 refine Ao h I ?_ ?_
 intro g h
 refine vM (vH (Al 1 [.o 0 0] I J1 (vJ [1] I (A3 1 0 0 [A5 a] I (Af 1 I (vI (Cd [1] I ?_)))))))
 obtain rfl := h
 exact vO ⟨.inr I, [_, _], [], ⟨⟨0, _, _, _, _, _, _, _, I5⟩, I, J⟩, Cf, I2⟩
 intro g h
 refine D2 11 (decide (b < 0) || decide (b > 400)) ?_ ?_
 refine vH (Af 3 I ?_)
 rcases bt (decide (b < 0)) with d | d
 exact Ad 14 I d (Af 4 I (vI (jf (by simp only [d, bz]) I I I2)))
 exact Ad 14 I d (Af 4 I (vI (jf (by simp only [d, bz]) I I I2)))
 refine Ao h I ?_ ?_
 intro i h
 refine vM (vH (Al 1 [.o 0 0] I J1 (vJ [1] I (A3 1 0 0 [A5 a] I (Af 1 I (vI (Cd [1] I ?_)))))))
 obtain rfl := h
 exact vO ⟨.inr I, [_, _], [], ⟨⟨0, _, _, _, _, _, _, _, I5⟩, I, J⟩, Cf, I2⟩
 intro i h
 refine vL (vM (vH (Al 2 [.o 0 0] I J1 (vU (iR a b _ I) (vJ [1] I (A3 1 0 0 [A5 (Oq a b)] I (Af 1 I (vI (Cd [1] I ?_)))))))))
 obtain rfl := h
 exact vO ⟨.inr I, [_, _], [], ⟨⟨0, _, _, _, _, _, _, _, I5⟩, I, J⟩, Cf, I2⟩
theorem jI (a : Valve) (r : Bool) (h : Oy a = r) : ACalls Ai 96 [.agg (A5 a)] [] (RB r) := by
 refine Ag Tryz.func96 I I I fun C hC => ?_
 unfold Oy at h
 refine vM (vH (vJ [] I (Bh (A5 a) 4 fun d => Af 1 I (vI (Ah (fun s ob => s = [(2, .v (.bool ((Fq a) && (a.Open == 0))))] ∧ ob = []) [] J ?_ ?_)))))
 refine vH (Al 1 [.o 0 0] I J1 (vU (Ik a _ I) (Af 1 I ?_)))
 rcases bt ((Fq a)) with b | b
 refine Ad 5 I b (Al 5 [.o 1 0] I J1 (vI ?_))
 exact lf I2 ⟨(D1 (by simp only [b, bz])), J⟩ [] I
 refine Ad 5 I b (Af 5 I (vI ?_))
 exact lf I2 ⟨(D1 (by simp only [b, bz])), J⟩ [] I
 rintro s ob ⟨rfl, rfl⟩
 obtain rfl := h
 exact vO pr
theorem Wa (a : Valve) (r : Bool) (h : Iw a = r) : ACalls Ai 97 [.agg (A5 a)] [] (RB r) := by
 refine Ag Tryz.func97 I I I fun C hC => ?_
 unfold Iw at h
 refine Aa fun e d => vH (vJ [] I (Bh (A5 a) 4 fun f => Af 1 I (vI ?_)))
 subst d
 refine Ah (fun s ob => s = [(2, .v (.bool ((Fq a) && (a.Open == a.Travel))))] ∧ ob = []) [] J ?_ ?_
 refine vH (Al 1 [.o 0 0] I J1 (vU (Ik a _ I) (Af 1 I ?_)))
 rcases bt ((Fq a)) with b | b
 refine Ad 5 I b (Al 7 [.o 1 0, .o 3 0] I J2 (vI ?_))
 exact lf I2 ⟨(D1 (by simp only [b, bz])), J⟩ [] I
 refine Ad 5 I b (Af 7 I (vI ?_))
 exact lf I2 ⟨(D1 (by simp only [b, bz])), J⟩ [] I
 rintro s ob ⟨rfl, rfl⟩
 obtain rfl := h
 exact vO pr
theorem gF (a : Valve) (r : Int) (h : Ir a = r) : ACalls Ai 98 [.agg (A5 a)] [] (RV (.V r)) := by
 refine Ag Tryz.func98 I I I fun C hC => ?_
 refine Aa fun j d => vH (vJ [] I (Bh (A5 a) 4 fun k => Af 1 I (vI ?_)))
 subst d
 refine Aa fun l e => vM (vH (Al 1 [.o 0 0] I J1 (vU (Ik a _ I) (Af 1 I (vI (Ao h I ?_ ?_))))))
 intro f h
 refine Aj I (vP g0 ?_)
 obtain rfl := h
 exact vO pr
 intro f h
 refine vL ?_
 subst e
 refine Aa fun n g => Bi (.still 0 (.still 2 (.still 3 (sl 3 5 (.act 1 (.still 4 (.act 8 (sl 3 9 .nil)))))))) [0] [_] I (Br 6 [.o 0 0, .o 2 0, .o 4 0, .o 5 0] I J4 (wE I (Pw a _ I) (A9 1 I (wE I (Pw a _ I) (A9 3 I (An (vI ?_)))))))
 subst g
 refine vM (D2 23 (a.Stuck && decide ((max (wr ((Ez a) - a.Open)) (wr (a.Open - (Ez a)))) > 0)) ?_ ?_)
 refine vH (Al 3 [.o 1 0] I J1 ?_)
 rcases bt (a.Stuck) with b | b
 exact Ad 20 I b (Af 3 I (vI (jf (by simp only [b, bz]) I I I2)))
 exact Ad 20 I b (Af 3 I (vI (jf (by simp only [b, bz]) I I I2)))
 refine Ao h I ?_ ?_
 intro i h
 refine Aj I (vP g0 ?_)
 obtain rfl := h
 exact vO pr
 intro i h
 refine vL (Aj I (vP g0 ?_))
 obtain rfl := h
 exact vO pr
theorem iC (a : Nw) (e : Plan) (b : Int) (r : Int × Int) (h : Xj a e b = some r) : ACalls Ai 142 [.agg (Ab a), .agg (Ak e), .V b] [] (RV (.tup [.V r.1, .V r.2])) := by
 refine Ag Tryz.func142 I I I fun C hC => ?_
 refine Aa fun w f => vH (vJ [] I (Bh (Ab a) 6 fun A => vJ [] I (Bh (Ak e) 3 fun B => Af 2 I (vI ?_))))
 subst f
 refine Aa fun D g => vM ?_
 obtain ⟨E, i, h⟩ := Ac h
 refine vH (Al 2 [.o 0 0, .o 1 1] I J2 (vU (Ij _ _ _ i) (Af 1 I (vI (Aj I (Ao h I ?_ ?_))))))
 intro j h
 refine Aj I (vP g0 ?_)
 cases io h
 exact vO ⟨.inr I, [_, _], [], J2, Cf, I2⟩
 intro j h
 refine vL ?_
 subst g
 refine vM (D2 23 (decide (b < 0) || decide (b ≥ (a.Nodes.length : Int))) ?_ ?_)
 refine vH (Af 3 I ?_)
 rcases bt (decide (b < 0)) with d | d
 exact Ad 17 I d (Af 6 I (vI (jf (by simp only [d, bz]) I I I2)))
 exact Ad 17 I d (Al 6 [.o 2 0, .l 3 (a.Nodes.length : Int)] I ⟨A8, I, J⟩ (vI (jf (by simp only [d, bz]) I I I2)))
 refine Ao h I ?_ ?_
 intro k h
 refine Aj I (vP g0 ?_)
 cases io h
 exact vO ⟨.inr I, [_, _], [], J2, Cf, I2⟩
 intro k h
 refine vL (vM ?_)
 obtain ⟨n, s, h⟩ := Ac h
 obtain ⟨t, ⟨u, v⟩, h⟩ := Ba h
 refine vH (Al 2 [.o 0 0, .o 1 1] I J2 (vJ [] I (Bp I I I (Vf _ _ _ s) dS ?_)))
 rintro _ _ ⟨rfl, rfl⟩
 refine Ch (Yp.field I I I I I (y := .agg (n.come.l.map cI)) (Pe I (by simp [Arr.h, Bq]))) I (Af 1 I (Ch (Gl (m := t.1) I I I I I I I u v (hlen := Arr.h _)) I (Af 2 I (vI (vP g0 ?_)))))
 cases io h
 exact vO ⟨.inr I, [_, _], [], J2, Cf, I2⟩
theorem jF (a : Valve) (r : Bool) (h : Sj a = r) : ACalls Ai 126 [.agg (A5 a)] [] (RB r) := by
 refine Ag Tryz.func126 I I I fun C hC => ?_
 unfold Sj at h
 refine vM (vH (vJ [] I (Bh (A5 a) 4 fun d => Af 1 I (vI (Ah (fun s ob => s = [(2, .v (.bool ((Iw a) && a.Want)))] ∧ ob = []) [] J ?_ ?_)))))
 refine vH (Al 1 [.o 0 0] I J1 (vU (Wa a _ I) (Af 1 I ?_)))
 rcases bt ((Iw a)) with b | b
 refine Ad 5 I b (Al 4 [.o 1 0] I J1 (vI ?_))
 exact lf I2 ⟨(D1 (by simp only [b, bz])), J⟩ [] I
 refine Ad 5 I b (Af 4 I (vI ?_))
 exact lf I2 ⟨(D1 (by simp only [b, bz])), J⟩ [] I
 rintro s ob ⟨rfl, rfl⟩
 obtain rfl := h
 exact vO pr
theorem We (b : Nw) (d : Plan) (f : Int) (r : Bool) (h : R9 b d f = some r) : ACalls Ai 90 [.agg (Ab b), .agg (Ak d), .V f] [] (RB r) := by
 refine Ag Tryz.func90 I I I fun C hC => ?_
 refine Aa fun n i => vH (vJ [] I (Bh (Ab b) 6 fun p => vJ [] I (Bh (Ak d) 3 fun t => Af 1 I (vI ?_))))
 subst i
 refine vM ?_
 obtain ⟨g, ⟨j, k⟩, h⟩ := Ba h
 obtain ⟨e, l, h⟩ := Ac h
 refine Bi (pd 14 0 [8]) [0, 1] [_, _] I (Br 8 [.o 0 0, .o 1 1, .o 3 0, .x 5 g.1 (Bn g.2)] I ⟨⟨j, Ae k⟩, I, I, I, J⟩ (wE I (iC _ _ _ _ l) (A9 5 I (An (vI (Ah (fun s ob => s = [(6, .v (.bool ((e.2 == 0) && (e.1 != 0))))] ∧ ob = []) [] J ?_ ?_))))))
 refine vH (Af 3 I ?_)
 rcases bt ((e.2 == 0)) with a | a
 refine Ad 23 I a (Af 4 I (vI ?_))
 exact lf I2 ⟨(D1 (by simp only [a, bz])), J⟩ [] I
 refine Ad 23 I a (Af 4 I (vI ?_))
 exact lf I2 ⟨(D1 (by simp only [a, bz])), J⟩ [] I
 rintro s ob ⟨rfl, rfl⟩
 cases io h
 exact vO pr
theorem Vo (a : Nw) (b : Plan) (d : Int) (r : Bool) (h : N0 a b d = some r) : ACalls Ai 49 [.agg (Ab a), .agg (Ak b), .V d] [] (RB r) := by
 refine Ag Tryz.func49 I I I fun C hC => ?_
 refine vM (vH (vJ [] I (Bh (Ab a) 6 fun f => vJ [] I (Bh (Ak b) 3 fun g => Af 1 I (vI (vM ?_))))))
 obtain ⟨i, e, h⟩ := Ac h
 refine vH (Al 3 [.o 0 0, .o 1 1] I J2 (vU (We _ _ _ _ e) (Af 1 I (vI (vP g0 ?_)))))
 cases io h
 exact vO pr
theorem iI (e : List Step) (r : Int) (h : R1 e = some r) : ACalls Ai 58 [Q9 e] [] (RV (.V r)) := by
 refine Ag Tryz.func58 I I I fun C hC => ?_
 unfold R1 at h
 refine Aj I (Aj I (Ah (fun s ob => ∃ (g : Int), R1.J1 g = some r ∧ s = [(3, .V g)] ∧ ob = []) [] J ?_ ?_))
 refine Bl [.l 1 (e.length : Int)] I ⟨A8, J⟩ (vN (Cu 6 I fun n => ?_))
 obtain ⟨F, p, t⟩ := Ac h
 refine Dm p (K2 6 7) J2 (fun (f : Nat) (b : Int) s ob => s = [(8, .V (f : Int)), (3, .V b)] ∧ ob = []) ⟨I, I⟩ ⟨I, I, J⟩ (pk []) ?_ ?_
 rintro f a b u s ob w j ⟨rfl, rfl⟩ h
 unfold R1.B2 at h
 have y := Df j
 refine Aj I (Aa fun G A => Cl I y (vL ?_))
 subst A
 refine Ah (fun s ob => ∃ (i : Int), R1.J3 i = some u ∧ s = [(3, .V i)] ∧ ob = []) (K3 6 7 8) J3 ?_ ?_
 refine vN (Aa fun H B => vH (Al 2 [.x 0 f (Cg a)] I ⟨⟨I, Ae w⟩, J⟩ (vJ [] I (Bm W8 7 fun K => vJ [0] I (A3 0 0 0 [Cg a] I (vI ?_))))))
 subst B
 refine D2 24 ((a.Kind == 6) && (decide (a.Value ≥ 1) && decide (a.Value ≤ 100))) ?_ ?_
 refine vH (Al 4 [.o 1 0] I J1 ?_)
 rcases bt ((a.Kind == 6)) with c | c
 refine Ad 15 I c (Al 5 [.o 1 0] I J1 ?_)
 rcases bt (decide (a.Value ≥ 1)) with d | d
 exact Ad 20 I d (Al 4 [.o 1 0] I J1 (vI (jf (by simp only [c, d, bz]) I I I2)))
 exact Ad 20 I d (Af 4 I (vI (jf (by simp only [c, d, bz]) I I I2)))
 exact Ad 15 I c (Af 9 I (vI (jf (by simp only [c, bz]) I I I2)))
 refine Ao h I ?_ ?_
 intro D h
 exact Hm [.o 2 0] I J1 (lg ⟨wr (b + a.Value), h, I2⟩ [])
 intro D h
 exact vL (lg ⟨b, h, I2⟩ [])
 rintro s ob ⟨i, h, rfl, rfl⟩
 unfold R1.J3 at h
 refine vH (Al 2 [.k 0 (f + 1 : Nat)] I ⟨Bj j n, J⟩ ?_)
 cases io h
 exact vI (lg I2 [])
 rintro b s ob ⟨rfl, rfl⟩ he
 subst he
 have h := t
 have E := Dg e.length
 exact Aj I (Aa fun M O => Cm I E (vQ (lg ⟨b, h, I2⟩ [])))
 rintro s ob ⟨g, h, rfl, rfl⟩
 unfold R1.J1 at h
 refine Aj I ?_
 cases io h
 exact vO pr
theorem gB (a : Nw) (r : Int) (h : Nx a = r) : ACalls Ai 122 [.agg (Ab a)] [] (RV (.V r)) := by
 refine Ag Tryz.func122 I I I fun C hC => ?_
 unfold Nx at h
 refine vM (vH (vJ [] I (Bh (Ab a) 6 fun b => Af 1 I (vI (Bl [.o 1 0, .l 2 (a.Segments.length : Int), .o 4 0, .l 5 (a.Ports.length : Int)] I ⟨A8, I, A8, I, J⟩ (vP g0 ?_))))))
 obtain rfl := h
 exact vO pr
theorem Vp (a : Lineup) (r : List Bool) (h : W9 a = some r) : ACalls Ai 59 [.agg (C7 a)] [] (fun x new => ∃ (b : Value), x = .v b ∧ new = [U1 b r]) := by
 refine Ag Tryz.func59 I I I fun C hC => ?_
 refine Aa fun i e => vH (vJ [] I (Bh (C7 a) 2 fun j => Af 1 I (vI ?_)))
 subst e
 refine vM ?_
 obtain ⟨k, c, h⟩ := Ac h
 refine vH (Al 2 [.o 1 0] I J1 (vJ [] I (Ts I I I I I I I I (AppSrc.list I) (Zv (Ep c).1) (Zu (Ep c).2) dS fun l => Af 1 I (vI (vM ?_)))))
 obtain ⟨f, g, h⟩ := Ac h
 refine vH (Al 3 [.o 2 0] I J1 (vJ [1] I (vV 1 I g fun d => Af 1 I (vI (Cd [1] I ?_)))))
 obtain rfl := oi h
 exact vO ⟨.inr I, [_], [U1 d f], J1, Cy I (Cf), ⟨d, I2⟩⟩
theorem Vh (c : Li) (r : List Bool) (h : Nu c = some r) : ACalls Ai 91 [Q0 c] [] (fun x new => ∃ (g : Value), x = .v g ∧ new = [U1 g r]) := by
 refine Ag Tryz.func91 I I I fun C hC => ?_
 unfold Nu at h
 refine Aj I (Aj I (Ah (fun s ob => ∃ (d : List Bool) (a : Value), Nu.J1 d = some r ∧ s = [(3, .v a)] ∧ ob = [U1 a d]) [] J ?_ ?_))
 refine Bl [.l 1 (c.length : Int)] I ⟨A8, J⟩ (vN (Cu 6 I fun m => vP (A7 4 1) ?_))
 obtain ⟨B, n, o⟩ := Ac h
 refine Dm n (K2 6 7) J2 (fun (e : Nat) (f : List Bool) s ob => ∃ (b : Value), s = [(8, .V (e : Int)), (3, .v b)] ∧ ob = [U1 b f]) ⟨nS, I2⟩ ⟨I, I, J⟩ (pk [0]) ?_ ?_
 rintro e i f D s ob p j ⟨b, rfl, rfl⟩ h
 have t := Df j
 refine Aj I (Aa fun E u => Cl I t (vL ?_))
 subst u
 refine vM (vN (Bl [.x 0 e (rI i)] I ⟨⟨I, Ae p⟩, J⟩ ?_))
 obtain ⟨F, w, h⟩ := Ac h
 refine vH (Af 3 I (vJ [] I (vR 1 (([(i != 0)] : List Bool).map rB) (vJ [0] I (vV 0 I w fun y => Af 1 I (vI (vH (Al 2 [.k 0 (e + 1 : Nat)] I ⟨Bj j m, J⟩ ?_))))))))
 cases io h
 exact vI (lg ⟨y, I2⟩ [0])
 rintro f s ob ⟨b, rfl, rfl⟩ he
 subst he
 have h := o
 have A := Dg c.length
 exact Aj I (Aa fun G H => Cm I A (vQ (lg ⟨f, b, h, I2⟩ [0])))
 rintro s ob ⟨d, a, h, rfl, rfl⟩
 refine Aj I ?_
 obtain rfl := oi h
 exact vO ⟨.inr I, [_], [U1 a d], J1, Cy I (Cf), ⟨a, I2⟩⟩
theorem Vy (a : Nw) (b : Plan) (r : Lineup × Int) (h : Rt a b = some r) : ACalls Ai 50 [.agg (Ab a), .agg (Ak b)] [] (RV (.tup [.agg (C7 r.1), .V r.2])) := by
 refine Ag Tryz.func50 I I I fun C hC => ?_
 refine Aa fun F n => vH (vJ [] I (Bh (Ab a) 6 fun d => vJ [] I (Bh (Ak b) 3 fun e => vJ [] I (Bm [.N, .N] 2 fun f => Af 1 I (vI ?_)))))
 subst n
 refine Aa fun G s => vM ?_
 obtain ⟨H, t, h⟩ := Ac h
 refine vH (Al 1 [.o 0 0] I J1 (vU (Kw _ _ t) (Af 1 I (vI (Aj I (Ao h I ?_ ?_))))))
 intro u h
 refine vM (vH (Ch (Bd (l := [.N, .N]) L9 I) I (Af 1 I (vJ [2] I (A3 2 0 0 [[.N, .N]] I (Af 1 I (vI (vP (Av [] (K := []) I [] J (ob' := [O0 d [Ab a], O1 e [Ak b], O8 f [[.list 1 ([].map rB), .list 1 ([].map rB)]]]) (.cons (.same _) (.cons (.same _) (.cons (.arr (.cons (.nil _) (.cons (.nil _) (.rest _)))) (.rest _))))) (Cd [2] I ?_)))))))))
 cases io h
 exact vO ⟨.inr I, [_, _], [], ⟨⟨0, _, _, _, _, _, _, _, I5⟩, I, J⟩, Cf, I2⟩
 intro u h
 refine vL ?_
 subst s
 refine vM (vM ?_)
 obtain ⟨M, w, h⟩ := Ac h
 refine vH (Al 2 [.o 0 0, .o 1 1] I J2 (vU (Ij _ _ _ w) (Af 1 I (vI (Aj I (Ao h I ?_ ?_))))))
 intro y h
 refine vM (vH (Ch (Bd (l := [.N, .N]) L9 I) I (Af 1 I (vJ [2] I (A3 2 0 0 [[.N, .N]] I (Af 1 I (vI (vP (Av [] (K := []) I [] J (ob' := [O0 d [Ab a], O1 e [Ak b], O8 f [[.list 1 ([].map rB), .list 1 ([].map rB)]]]) (.cons (.same _) (.cons (.same _) (.cons (.arr (.cons (.nil _) (.cons (.nil _) (.rest _)))) (.rest _))))) (Cd [2] I ?_)))))))))
 cases io h
 exact vO ⟨.inr I, [_, _], [], ⟨⟨0, _, _, _, _, _, _, _, I5⟩, I, J⟩, Cf, I2⟩
 intro y h
 refine vL (vM ?_)
 obtain ⟨j, A, h⟩ := Ac h
 obtain ⟨k, B, h⟩ := Ac h
 refine Bi (.still 0 (.still 1 (.still 3 (.still 4 (.act 2 (.act 5 (.still 6 (.act 7 (.still 8 .nil))))))))) [1] [_] I (Br 4 [.o 1 0, .o 3 0] I J2 (vK [] I I I (Bp I I I (Vh _ _ A) dS ?_)))
 rintro _ _ ⟨g, rfl, rfl⟩
 refine vK [] I I I (Bp I I I (Vh _ _ B) dS ?_)
 rintro _ _ ⟨i, rfl, rfl⟩
 refine wA 3 I fun D => wA 4 I fun E => Lh I (Bd (l := [.v g, .v i]) L9 (Bu I I (A6 D) I (Bu I I (A6 E) I (Eb)))) I (vK [2] I I I (A3 2 0 0 [[.v g, .v i]] I (A9 1 I (An (vI (vP (Av [3, 4] (K := [U1 g j, U1 i k]) I [] J (ob' := [O0 d [Ab a], O1 e [Ak b], O8 f [[Q2 j, Q2 k]]]) (.cons (.same _) (.cons (.same _) (.cons (.arr (.cons (.us 0 I) (.cons (.us 1 I) (.rest _)))) (.rest _))))) (Cd [2] I ?_)))))))
 cases io h
 exact vO ⟨.inr I, [_, _], [], ⟨⟨0, _, _, _, _, _, _, _, I5⟩, I, J⟩, Cf, I2⟩
theorem hG (a : List Valve) (F1 : T) {c : FuncId} {d e : List T} (o : Nl F1 = some (c, d, e)) (f : Valve → Option Bool) (p : ∀ (g : Valve) r, f g = some r → ACalls Ai c (d ++ [.agg (A5 g)] ++ e) [] (RB r)) (r : Int) (h : Xg a f = some r) : ACalls Ai 151 [Q8 a, F1] [] (RV (.V r)) := by
 refine Ag Tryz.func151 I I I fun C hC => ?_
 unfold Xg at h
 refine Aj I (Ah (fun s ob => ∃ (i : Unit), Xg.J1 i = some r ∧ s = [] ∧ ob = []) [] J ?_ ?_)
 refine Bl [.l 1 (a.length : Int)] I ⟨A8, J⟩ (vN (Cu 6 I fun q => ?_))
 obtain ⟨G, t, j⟩ := Ac h
 refine Cv t (K3 0 1 7) J3 (fun (b : Nat) (m : Unit) s ob => s = [(8, .V (b : Int))] ∧ ob = []) ⟨I, I⟩ ⟨I, J⟩ (pk []) ?_ ?_
 rintro b u m H s ob w n ⟨rfl, rfl⟩ h y
 have A := Df n
 refine Aj I (Aa fun K B => Cl I A (vL ?_))
 subst B
 refine vM (vN (Aj I (vM ?_)))
 obtain ⟨M, D, h⟩ := Ac h
 refine vH (Al 5 [.x 3 b (A5 u)] I ⟨⟨I, Ae w⟩, J⟩ (vJ [] I (Cw I (.refl _) o I (.rest _) I (p _ _ D) dS (by rintro _ _ ⟨rfl, _⟩; rfl) ?_)))
 rintro _ ⟨_, rfl, -⟩
 refine vI (Ao h I ?_ ?_)
 intro E h
 refine Aj I ?_
 obtain rfl := y _ (oi h).symm
 have h := j
 have h := Do h
 cases io h
 exact vO pr
 intro E h
 refine vL (vH (Al 2 [.k 0 (b + 1 : Nat)] I ⟨Bj n q, J⟩ ?_))
 cases io h
 exact vI ⟨_, _, _, I, I2, J4, pk []⟩
 rintro m s ob ⟨rfl, rfl⟩ he
 subst he
 have h := Dn j
 have F := Dg a.length
 exact Aj I (Aa fun N O => Cm I F (vQ (lg ⟨(), h, I2⟩ [])))
 rintro s ob ⟨i, h, rfl, rfl⟩
 unfold Xg.J1 at h
 refine Aj I ?_
 cases io h
 exact vO pr
theorem iN (b : List Valve) (F1 : T) {d : FuncId} {e f : List T} (i : Nl F1 = some (d, e, f)) (a : Valve → Option Bool) (j : ∀ (g : Valve) r, a g = some r → ACalls Ai d (e ++ [.agg (A5 g)] ++ f) [] (RB r)) (r : Bool) (h : Xm b a = some r) : ACalls Ai 123 [Q8 b, F1] [] (RB r) := by
 refine Ag Tryz.func123 I I I fun C hC => ?_
 refine Aj I (vM ?_)
 obtain ⟨l, k, h⟩ := Ac h
 refine vH (Af 2 I (vU (hG _ F1 i a j _ k) (Af 2 I (vI ?_))))
 cases io h
 exact vO pr
theorem iO (a : Valve) (r : Bool) (h : Ly a = r) : ACalls Ai 124 [.agg (A5 a)] [] (RB r) := by
 refine Ag Tryz.func124 I I I fun C hC => ?_
 unfold Ly at h
 refine vM (vH (vJ [] I (Bh (A5 a) 4 fun b => Af 1 I (vI (vM (vH (Al 1 [.o 0 0] I J1 (vU (Ik a _ I) (Af 2 I (vI (vP g0 ?_)))))))))))
 obtain rfl := h
 exact vO pr
theorem gZ (a : Nw) (b : Plan) (r : Bool) (h : Rs a b = some r) : ACalls Ai 127 [.agg (Ab a), .agg (Ak b)] [] (RB r) := by
 refine Ag Tryz.func127 I I I fun C hC => ?_
 unfold Rs at h
 refine Aa fun P y => vH (vJ [] I (Bh (Ab a) 6 fun i => vJ [] I (Bh (Ak b) 3 fun j => Af 1 I (vI ?_))))
 subst y
 refine Ah (fun s ob => ∃ (n : Unit), Rs.J1 n = some r ∧ s = [] ∧ ob = []) [] J ?_ ?_
 refine Bl [.o 1 1, .l 2 (b.Pumps.length : Int)] I ⟨A8, I, J⟩ (vN (Cu 8 I fun A => ?_))
 obtain ⟨Q, B, p⟩ := Ac h
 refine Cv B (K4 2 3 8 9) J4 (fun (d : Nat) (t : Unit) s ob => s = [(10, .V (d : Int))] ∧ ob = [O0 i [Ab a], O1 j [Ak b]]) ⟨I, I⟩ ⟨I, J⟩ (pk [0, 1]) ?_ ?_
 rintro d u t D s ob E w ⟨rfl, rfl⟩ h F
 unfold Rs.B2 at h
 have G := Df w
 refine Aj I (Aa fun R H => Cl I G (vL ?_))
 subst H
 refine vM (vN (Bl [.x 1 d (rB u)] I ⟨⟨I, Ae E⟩, J⟩ (Ah (fun s ob => ∃ (g : Bool), Rs.J3 g = some D ∧ s = [(29, .v (.bool g))] ∧ ob = [O0 i [Ab a], O1 j [Ak b]]) (K5 2 3 8 9 10) J5 ?_ ?_)))
 refine vH (Af 2 I ?_)
 rcases bt (u) with e | e
 have h := B0 e h
 refine Ad 16 I e ?_
 rcases bt (decide ((d : Int) < (a.Stations.length : Int))) with f | f
 have h := B0 f h
 obtain ⟨K, M, h⟩ := Ac h
 exact Al 7 [.o 2 0, .l 3 (a.Stations.length : Int)] I ⟨A8, I, J⟩ (Ad 23 I f (Al 3 [.o 0 0, .o 1 1] I J2 (Bf I I I (vU (We _ _ _ _ M) (Af 2 I (vI (lg ⟨(!K), h, I2⟩ [0, 1])))))))
 have h := B8 f h
 exact Al 7 [.o 2 0, .l 3 (a.Stations.length : Int)] I ⟨A8, I, J⟩ (Ad 23 I f (Af 6 I (vI (lg ⟨false, h, I2⟩ [0, 1]))))
 have h := B8 e h
 exact Ad 16 I e (Af 13 I (vI (lg ⟨false, h, I2⟩ [0, 1])))
 rintro s ob ⟨g, h, rfl, rfl⟩
 refine Ao h I ?_ ?_
 intro N h
 refine Aj I ?_
 obtain rfl := F _ (oi h).symm
 have h := p
 have h := Do h
 refine vP g0 ?_
 cases io h
 exact vO pr
 intro N h
 refine vL (vH (Al 2 [.k 0 (d + 1 : Nat)] I ⟨Bj w A, J⟩ ?_))
 cases io h
 exact vI ⟨_, _, _, I, I2, J5, pk [0, 1]⟩
 rintro t s ob ⟨rfl, rfl⟩ he
 subst he
 have h := Dn p
 have O := Dg b.Pumps.length
 exact Aj I (Aa fun S U => Cm I O (vQ (lg ⟨(), h, I2⟩ [])))
 rintro s ob ⟨n, h, rfl, rfl⟩
 unfold Rs.J1 at h
 refine Aj I ?_
 cases io h
 exact vO pr
theorem iA (b : Nw) (a : Desk) (r : Int) (h : It b a = some r) : ACalls Ai 85 [.agg (Ab b), .agg (Bs a)] [] (RV (.V r)) := by
 refine Ag Tryz.func85 I I I fun C hC => ?_
 refine Aa fun y1 H => vH (vJ [] I (Bh (Ab b) 6 fun g => vJ [] I (Bh (Bs a) 4 fun i => Af 1 I (vI ?_))))
 subst H
 refine Aa fun y4 K => vM ?_
 obtain ⟨r5, M, h⟩ := Ac h
 refine vH (Al 1 [.o 0 0] I J1 (vU (Kw _ _ M) (Af 1 I (vI (Aj I (Ao h I ?_ ?_))))))
 intro O h
 refine Aj I (vP g0 ?_)
 cases io h
 exact vO pr
 intro O h
 refine vL ?_
 subst K
 refine Aa fun y8 P => Ah (fun s ob => ∃ (p : Bool), It.J1 b a p = some r ∧ s = [(26, .v (.bool p))] ∧ ob = [O0 g [Ab b], O4 i [Bs a]]) (K2 2 3) J2 ?_ ?_
 refine Bi (pd 11 0 [4, 9]) [1, 0] [_, _] I (Br 4 [.o 1 0, .l 2 (a.Valves.length : Int), .o 3 1] I ⟨I, A8, I, J⟩ (wE I (gB b _ I) (A9 2 I ?_)))
 rcases bt (((a.Valves.length : Int) != (Nx b))) with e | e
 have h := B0 e h
 exact Bk 22 I e (A9 4 I (An (vI (lg ⟨true, h, I2⟩ [0, 1]))))
 have h := B8 e h
 obtain ⟨Q, R, h⟩ := Ac h
 exact Bk 22 I e (Br 2 [.o 1 0] I J1 (H8 I (iN _ (.v (.func (.func 124) #[] #[])) I (fun x => some (Ly x)) (fun x r h => by obtain I := oi h; exact iO x _ I) _ R) (A9 1 I (An (vI (lg ⟨Q, h, I2⟩ [0, 1]))))))
 rintro s ob ⟨p, h, rfl, rfl⟩
 refine Ao h I ?_ ?_
 intro S h
 refine Aj I (vP g0 ?_)
 cases io h
 exact vO pr
 intro S h
 refine vL ?_
 subst P
 refine Aa fun az U => vM ?_
 obtain ⟨a0, W, h⟩ := Ac h
 refine vH (Al 2 [.o 0 0] I J1 (vS (Bv 1 0 1 I I I I I (y := .agg (Ak a.Plan)) I) I (vU (Ij _ _ _ W) (Af 1 I (vI (Aj I (Ao h I ?_ ?_)))))))
 intro X h
 refine Aj I (vP g0 ?_)
 cases io h
 exact vO pr
 intro X h
 refine vL ?_
 subst U
 refine Aa fun a1 Y => ?_
 obtain ⟨Z, aa, h⟩ := Ac h
 refine vH (Al 2 [.o 0 0] I J1 (vS (Bv 1 0 1 I I I I I (y := .agg (Ak a.Plan)) I) I (vJ [] I (Bp I I I (Vy _ _ _ aa) dS ?_))))
 rintro _ _ ⟨rfl, rfl⟩
 refine Af 3 I (vJ [] I (Bm [.N, .N] 2 fun a2 => vJ [2] I (A3 2 0 0 [C7 Z.1] I (Af 1 I (vI ?_)))))
 subst Y
 refine Aa fun a3 ab => Aj I (Ao h I ?_ ?_)
 intro ac h
 refine Aj I (vP g0 ?_)
 cases io h
 exact vO pr
 intro ac h
 refine vL ?_
 subst ab
 refine Ah (fun s ob => ∃ (A : Unit), It.J2 b a A = some r ∧ s = [] ∧ ob = [O0 g [Ab b], O4 i [Bs a]]) (K2 2 3) J2 ?_ ?_
 refine Aa fun a4 ad => ?_
 obtain ⟨t, ae, h⟩ := Ac h
 refine vH (Al 1 [.o 0 2] I J1 (vJ [] I (Bp I I I (Vp _ _ ae) dS ?_)))
 rintro _ _ ⟨B, rfl, rfl⟩
 refine vS (By 3 I I I I) I (Af 1 I (vI ?_))
 subst ad
 refine vN (P1 3 I fun af => ?_)
 obtain ⟨a5, ag, D⟩ := Ac h
 refine Gi ag (K4 2 3 45 46) J4 (fun (u : Nat) (E : Unit) s ob => s = [(47, .V (u : Int))] ∧ ob = [O0 g [Ab b], O4 i [Bs a], U1 B t]) ⟨I, I⟩ ⟨I, J⟩ (pk [0, 1, 3]) ?_ ?_
 rintro u E ah s ob F ⟨rfl, rfl⟩ h ai
 have aj := Df F
 refine Aj I (Aa fun a6 ak => Cl I aj (vL ?_))
 subst ak
 refine vM (vN (Aa fun a7 al => ?_))
 obtain ⟨j, ⟨am, G⟩, h⟩ := Ba h
 refine vH (Af 1 I (vS (Bb 2 (m := j.1) I I I I I I I am (Ae G)) I (vS (Au 2 j.1 0 I I I (Ae G) I (y := .v (.bool j.2)) I) I (Af 2 I (vI ?_)))))
 subst al
 refine Ah (fun s ob => ∃ (w : Bool), It.J4 w = some ah ∧ s = [(61, .v (.bool w))] ∧ ob = [O0 g [Ab b], O4 i [Bs a], U1 B t]) (K5 2 3 45 46 47) J5 ?_ ?_
 refine vH (Af 2 I ?_)
 rcases bt (j.2) with f | f
 have h := B0 f h
 obtain ⟨n, ⟨an, ao⟩, h⟩ := Ba h
 exact Ad 53 I f (Al 5 [.o 1 1, .x 3 n.1 (A5 n.2)] I ⟨⟨an, Ae ao⟩, I, J⟩ (Bf I I I (vU (jF n.2 _ I) (Af 2 I (vI (lg ⟨(!(Sj n.2)), h, I2⟩ N3))))))
 have h := B8 f h
 exact Ad 53 I f (Af 8 I (vI (lg ⟨false, h, I2⟩ N3)))
 rintro s ob ⟨w, h, rfl, rfl⟩
 refine Ao h I ?_ ?_
 intro ap h
 refine Aj I ?_
 obtain rfl := ai _ (oi h).symm
 have h := D
 have h := Do h
 refine vP g0 ?_
 cases io h
 exact vO pr
 intro ap h
 refine vL (vH (Al 2 [.k 0 (u + 1 : Nat)] I ⟨Bj F af, J⟩ ?_))
 cases io h
 exact vI ⟨_, _, _, I, I2, J5, pk N3⟩
 rintro E s ob ⟨rfl, rfl⟩ he
 subst he
 have h := Dn D
 have aq := Dg t.length
 exact Aj I (Aa fun a8 a9 => Cm I aq (vQ (lg ⟨(), h, I2⟩ [0, 1])))
 rintro s ob ⟨A, h, rfl, rfl⟩
 refine vM (vM ?_)
 obtain ⟨ba, ar, h⟩ := Ac h
 refine vH (Al 2 [.o 0 0] I J1 (vS (Bv 1 0 1 I I I I I (y := .agg (Ak a.Plan)) I) I (vU (gZ _ _ _ ar) (vI (Ao h I ?_ ?_)))))
 intro au h
 refine Aj I (vP g0 ?_)
 cases io h
 exact vO pr
 intro au h
 refine vL (Aj I (vP g0 ?_))
 cases io h
 exact vO pr
theorem Wg (e : List Path) (p : List Path) (r : Li) (h : Ot e p = some r) : ACalls Ai 56 [Q6 e, Q6 p] [] (fun x new => ∃ (t : Value), x = .v t ∧ new = [U0 t r]) := by
 refine Ag Tryz.func56 I I I fun C hC => ?_
 unfold Ot at h
 refine Aj I (Aj I (Ah (fun s ob => ∃ (f : Li) (d : Value), Ot.J1 f = some r ∧ s = [(5, .v d)] ∧ ob = [U0 d f]) [] J ?_ ?_))
 refine Bl [.l 1 (e.length : Int)] I ⟨A8, J⟩ (vN (Cu 10 I fun w => vP (A7 3 1) ?_))
 obtain ⟨U, y, A⟩ := Ac h
 refine Dm y (K3 1 10 11) J3 (fun (g : Nat) (a : Li) s ob => ∃ (b : Value), s = [(12, .V (g : Int)), (5, .v b)] ∧ ob = [U0 b a]) ⟨nS, I2⟩ ⟨I, I, J⟩ (pk [0]) ?_ ?_
 rintro g j a B s ob D u ⟨b, rfl, rfl⟩ h
 unfold Ot.B2 at h
 have E := Df u
 refine Aj I (Aa fun W F => Cl I E (vL ?_))
 subst F
 refine vM (vN (Aa fun X G => vH (Al 2 [.x 0 g (Az j)] I ⟨⟨I, Ae D⟩, J⟩ (vJ [] I (Bm W2 4 fun Y => vJ [1] I (A3 1 0 0 [Az j] I (vI ?_)))))))
 subst G
 refine Aj I (Ah (fun s ob => ∃ (i : Int), Ot.J3 a i = some B ∧ s = [(8, .V i)] ∧ ob = [U0 b a]) (K5 1 5 10 11 12) J5 ?_ ?_)
 refine Aa fun Z H => ?_
 obtain ⟨aa, K, h⟩ := Ac h
 refine vH (Al 2 [.o 1 1] I J1 (vU (Wf _ _ _ K) (Af 1 I (vI ?_))))
 subst H
 refine Aj I (Ao h I ?_ ?_)
 intro M h
 obtain ⟨n, ⟨O, P⟩, h⟩ := Ba h
 exact Ys (pd 9 0 []) [1] [_] [.o 1 0, .x 4 n.1 (Az n.2)] I I ⟨⟨O, Ae P⟩, I, J⟩ (lg ⟨(min j.Rate n.2.Rate), h, I2⟩ [0])
 intro M h
 exact vL (lg ⟨0, h, I2⟩ [0])
 rintro s ob ⟨i, h, rfl, rfl⟩
 obtain ⟨ab, Q, h⟩ := Ac h
 refine vH (Af 2 I (vJ [] I (vR 1 (([i] : Li).map rI) (vJ [0] I (vV 0 I Q fun R => Af 1 I (vI (vH (Al 2 [.k 0 (g + 1 : Nat)] I ⟨Bj u w, J⟩ ?_))))))))
 cases io h
 exact vI (lg ⟨R, I2⟩ [0])
 rintro a s ob ⟨b, rfl, rfl⟩ he
 subst he
 have h := A
 have S := Dg e.length
 exact Aj I (Aa fun ac ad => Cm I S (vQ (lg ⟨a, b, h, I2⟩ [0])))
 rintro s ob ⟨f, d, h, rfl, rfl⟩
 refine Aj I ?_
 obtain rfl := oi h
 exact vO ⟨.inr I, [_], [U0 d f], J1, Cy I (Cf), ⟨d, I2⟩⟩
theorem fW (p : Nw) (H : List Path) (M : List Path) (r : Plan) (h : Rf p H M = some r) : ACalls Ai 54 [.agg (Ab p), Q6 H, Q6 M] [] (RV (.agg (Ak r))) := by
 refine Ag Tryz.func54 I I I fun C hC => ?_
 unfold Rf at h
 refine Aa fun y1 ab => vH (vJ [] I (Bh (Ab p) 6 fun b2 => vJ [] I (Bm W0 3 fun E => vI ?_)))
 subst ab
 refine Ah (fun s ob => ∃ (c : Li × Li × (List Bool)) (e : Nat) (t : Value) (u : Value) (F : Value), Rf.J1 H M c = some r ∧ s = [(7, .P e)] ∧ ob = [O1 E [W0], U0 t c.1, U0 u c.2.1, U1 F c.2.2, O1 e [[.v t, .v u, .v F]]]) (K3 1 2 6) J3 ?_ ?_
 obtain ⟨Q, ⟨a2, ac, ad, ae⟩, h⟩ := Fo h
 obtain ⟨R, ⟨a3, af, ag, ah⟩, h⟩ := Fo h
 obtain ⟨S, ⟨a4, ai, aj, ak⟩, h⟩ := Fo h
 refine Bi rL [0] [_] I (Br 9 [.o 1 0, .l 2 (p.Segments.length : Int), .o 4 0, .l 5 (p.Ports.length : Int), .o 7 0, .l 8 (p.Stations.length : Int)] I ⟨A8, I, A8, I, A8, I, J⟩ (AP.any [⟨3, [], 13, .us 3 1 (Q.map rI)⟩, ⟨7, [], 17, .us 3 1 (R.map rI)⟩, ⟨11, [], 21, .us 4 1 (S.map rB)⟩, ⟨13, [], 7, .box 37 3 (W0)⟩, ⟨12, [3, 7, 11], 22, .fn fun l => match l with | [.v i, .v j, .v n] => .agg [.v i, .v j, .v n] | _ => .tup []⟩] I ⟨⟨_, I, I, I, fun _ => Dq (sz := 1) I I I I I I I I I I ac ad (D5 (f := rI) ae I) dS fun v => ⟨_, I, ⟨v, I⟩, I⟩⟩, ⟨_, I, I, I, fun _ => Dq (sz := 1) I I I I I I I I I I af ag (D5 (f := rI) ah I) dS fun v => ⟨_, I, ⟨v, I⟩, I⟩⟩, ⟨_, I, I, I, fun _ => Dq (sz := 1) I I I I I I I I I I ai aj (D5 (f := rB) ak I) dS fun v => ⟨_, I, ⟨v, I⟩, I⟩⟩, ⟨_, I, I, I, fun _ => Bm W0 3 fun b => ⟨_, I, ⟨b, I⟩, I⟩⟩, ⟨_, I, I, I, fun i U j W n X _ => Ay (wB (Bd (l := [.v i, .v j, .v n]) Dj (Bu I I (A6 U) I (Bu I I (A6 W) I (Bu I I (A6 X) I (Eb)))))) dS ⟨_, I, I, nb⟩⟩, J⟩ ?_))
 intro i U j W n X al
 exact AP.same 22 (.agg [.v i, .v j, .v n]) I (vK [5] I I I (A3 5 0 0 [[.v i, .v j, .v n]] I (An (vI (lg ⟨(Q, R, S), al, i, j, n, h, I2⟩ [1, 2, 3, 4, 5])))))
 rintro s ob ⟨c, e, t, u, F, h, rfl, rfl⟩
 unfold Rf.J1 at h
 refine Ah (fun s ob => ∃ (a : Li × Li × (List Bool)) (w : Value) (A : Value), Rf.J2 a = some r ∧ s = [] ∧ ob = [O1 E [W0], U0 w a.1, U0 A a.2.1, O1 e [[.v w, .v A, Q2 a.2.2]]]) (K2 6 7) J2 ?_ ?_
 refine Aa fun a5 am => ?_
 obtain ⟨O, an, h⟩ := Ac h
 refine vH (Af 2 I (vJ [] I (Bp I I I (gX _ _ _ an) dS ?_)))
 rintro _ _ ⟨Y, rfl, rfl⟩
 refine vS (By 5 I I I I) I (Af 1 I (vI ?_))
 subst am
 refine vN (P1 5 I fun ao => vP (Av [3] (K := [U1 F c.2.2]) I [] J (ob' := [O1 E [W0], U0 t c.1, U0 u c.2.1, O1 e [[.v t, .v u, Q2 c.2.2]], U3 Y O]) (.cons (.same _) (.cons (.same _) (.cons (.same _) (.cons (.arr (.cons (.refl _) (.cons (.refl _) (.cons (.us 0 I) (.rest _))))) (.rest _)))))) ?_)
 obtain ⟨a6, ap, aq⟩ := Ac h
 refine Ib ap (K4 6 7 25 26) J4 (fun (P : Nat) (g : Li × Li × (List Bool)) s ob => ∃ (B : Value) (D : Value), s = [(27, .V (P : Int))] ∧ ob = [O1 E [W0], U0 B g.1, U0 D g.2.1, O1 e [[.v B, .v D, Q2 g.2.2]], U3 Y O]) ⟨t, u, I2⟩ ⟨I, J⟩ (pk N5) ?_ ?_
 rintro P g a7 s ob Z ⟨B, D, rfl, rfl⟩ h
 have ar := Df Z
 refine Aj I (Aa fun a8 au => Cl I ar (vL ?_))
 subst au
 refine vM (vN (vM ?_))
 obtain ⟨G, ⟨av, aa⟩, h⟩ := Ba h
 refine vH (vS (Bb 4 (m := G.1) I I I I I I I av (Ae aa)) I (vS (Au 4 G.1 0 I I I (Ae aa) I (y := .agg (Az G.2)) I) I (vJ [] I (Bm W2 4 fun a9 => vJ [5] I (A3 5 0 0 [Az G.2] I (vI ?_))))))
 obtain ⟨ba, aw, h⟩ := Ac h
 refine vH (Al 3 [.o 0 5, .o 2 5] I J2 (vJ [3, 1, 2] I (Es [3, 1, 2] (gD e _ B D _ _ _ aw) ?_)))
 rintro _ _ _ - ⟨ax, ay, rfl, rfl, rfl⟩
 refine vI (vH (Al 2 [.k 0 (P + 1 : Nat)] I ⟨Bj Z ao, J⟩ ?_))
 cases io h
 exact vI (lg ⟨ax, ay, I2⟩ N5)
 rintro g s ob ⟨B, D, rfl, rfl⟩ he
 subst he
 have h := aq
 have az := Dg O.length
 exact Aj I (Aa fun bb bc => Cm I az (vQ (lg ⟨(g.1, g.2.1, g.2.2), B, D, h, I2⟩ N4)))
 rintro s ob ⟨a, w, A, h, rfl, rfl⟩
 unfold Rf.J2 at h
 refine vM (vH (Al 1 [.o 0 3] I J1 (vJ [0] I (A3 0 0 0 [[.v w, .v A, Q2 a.2.2]] I (vI (vP (Av [1, 2] (K := [U0 w a.1, U0 A a.2.1]) I [] J (ob' := [O1 E [[Q0 a.1, Q0 a.2.1, Q2 a.2.2]], O1 e [[.v w, .v A, Q2 a.2.2]]]) (.cons (.arr (.cons (.us 0 I) (.cons (.us 1 I) (.rest _)))) (.rest _))) (Cd [0] I ?_)))))))
 cases io h
 exact vO ⟨.inr I, [_], [], ⟨⟨0, _, _, _, _, _, _, _, I5⟩, J⟩, Cf, I2⟩
theorem gY (n : Desk) (a : Int) (y : List Bool) (r : (List Step) × Int × Bool) (h : Rr n a y = some r) : ACalls Ai 57 [.agg (Bs n), .V a, Q2 y] [] (fun x new => ∃ (Q : Value), x = .tup [.v Q, .V r.2.1, .v (.bool r.2.2)] ∧ new = [U2 Q r.1]) := by
 refine Ag Tryz.func57 I I I fun C hC => ?_
 unfold Rr at h
 refine Aa fun y1 aa => vH (vJ [] I (Bh (Bs n) 4 fun b2 => Af 3 I (vI ?_)))
 subst aa
 refine Aj I (Aj I (Ah (fun s ob => ∃ (t : (List Step) × (List Step) × Int) (F : Value) (G : Value), Rr.J1 t = some r ∧ s = [(9, .v F), (10, .v G), (11, .V t.2.2)] ∧ ob = [U2 F t.1, U2 G t.2.1]) [] J ?_ ?_))
 refine Bl [.o 1 0, .l 2 (n.Valves.length : Int)] I ⟨A8, I, J⟩ (vN (Cu 20 I fun ab => vP (A7 54 7) (vP (A7 54 7) ?_)))
 obtain ⟨bb, ac, H⟩ := Ac h
 refine Cv ac (K4 1 2 20 21) J4 (fun (e : Nat) (d : (List Step) × (List Step) × Int) s ob => ∃ (g : Value) (i : Value), s = [(22, .V (e : Int)), (9, .v g), (10, .v i), (11, .V d.2.2)] ∧ ob = [U2 g d.1, U2 i d.2.1]) ⟨nS, nS, I2⟩ ⟨I, I, I, I, J⟩ (pk [1, 2]) ?_ ?_
 rintro e b d M s ob ad R ⟨g, i, rfl, rfl⟩ h S
 unfold Rr.B2 at h
 have ae := Df R
 refine Aj I (Aa fun bc af => Cl I ae (vL ?_))
 subst af
 refine Ah (fun s ob => ∃ (u : (List Step) × (List Step) × Int) (A : Value) (B : Value), Rr.J3 u = some M ∧ s = [(9, .v A), (10, .v B), (11, .V u.2.2)] ∧ ob = [U2 A u.1, U2 B u.2.1]) (K5 1 2 20 21 22) J5 ?_ ?_
 refine vN (Aa fun bd ag => vH (Al 3 [.x 1 e (A5 b)] I ⟨⟨I, Ae ad⟩, J⟩ (vJ [] I (Bm W5 4 fun be => Af 1 I (vJ [2] I (A3 2 0 0 [A5 b] I (vI ?_)))))))
 subst ag
 refine Aa fun bf ah => vH (Al 3 [.o 0 2] I J1 (vU (gC b (min a 60) _ I) (Af 3 I (vJ [] I (Bm W5 4 fun D => vJ [3] I (A3 3 0 0 [A5 ((Cs b (min a 60)).1)] I (Af 1 I (vI ?_))))))))
 subst ah
 refine Aa fun bg ai => Aj I (Ao h I ?_ ?_)
 intro aj h
 refine Aj I ?_
 obtain rfl := S _ (oi h).symm
 have h := H
 have h := Do h
 refine vP (A7 54 7) (Cd [4] I ?_)
 cases io h
 exact vO ⟨.inr I, [_, _, _], [.us nS 54 7 ([].map Cg)], J3, Cy I (Cf), ⟨nS, I2⟩⟩
 intro aj h
 refine vL ?_
 subst ai
 refine Aa fun bh ak => vH (Af 1 I (Ch (Bd (l := [.V 2, .V (e : Int), .V 0, .V 0, .V 0, .N, .V 0]) Ec I) I (vJ [] I (Bm W8 7 fun E => vJ [4] I (A3 4 0 0 [[.V 2, .V (e : Int), .V 0, .V 0, .V 0, .N, .V 0]] I (vI ?_))))))
 subst ak
 refine Aa fun bi al => vH (Al 1 [.o 0 3] I J1 (vU (jI ((Cs b (min a 60)).1) _ I) (Af 1 I (vI ?_))))
 subst al
 refine Ah (fun s ob => ∃ (f : Int × Bool), Rr.J4 a y e b d f = some M ∧ s = [(17, .v (.bool f.2))] ∧ ob = [U2 g d.1, U2 i d.2.1, Yi D [A5 ((Cs b (min a 60)).1)], .arr E 54 7 1 [[.V f.1, .V (e : Int), .V 0, .V 0, .V 0, .N, .V 0]]]) [(1, _), (2, _), (9, _), (10, _), (11, _), (12, _), (14, _), (16, _), (20, _), (21, _), (22, _)] qR ?_ ?_
 refine vM ?_
 obtain ⟨U, ⟨am, an⟩, h⟩ := Ba h
 refine Hm [.x 2 U.1 (rB U.2)] I ⟨⟨am, Ae an⟩, J⟩ (Ao h I ?_ ?_)
 intro ao h
 exact vH (Al 1 [.o 0 3] I J1 (vU (Wa ((Cs b (min a 60)).1) _ I) (Af 1 I (vJ [4] I (A3 4 0 0 [[.V 1, .V (e : Int), .V 0, .V 0, .V 0, .N, .V 0]] I (Af 1 I (vI (lg ⟨(1, (Iw ((Cs b (min a 60)).1))), h, I2⟩ [0, 1, 3, 4]))))))))
 intro ao h
 exact vL (lg ⟨(2, (Oy ((Cs b (min a 60)).1))), h, I2⟩ [0, 1, 3, 4])
 rintro s ob ⟨f, h, rfl, rfl⟩
 unfold Rr.J4 at h
 refine Aa fun bj aq => Ah (fun s ob => ∃ (O : Bool), Rr.J5 a y e b d f O = some M ∧ s = [(56, .v (.bool O))] ∧ ob = [U2 g d.1, U2 i d.2.1, Yi D [A5 ((Cs b (min a 60)).1)], .arr E 54 7 1 [[.V f.1, .V (e : Int), .V 0, .V 0, .V 0, .N, .V 0]]]) [(1, _), (2, _), (9, _), (10, _), (11, _), (12, _), (14, _), (16, _), (20, _), (21, _), (22, _)] qR ?_ ?_
 rcases bt (f.2) with w | w
 have h := B0 w h
 obtain ⟨P, ⟨ar, au⟩, h⟩ := Ba h
 exact Bi (pd 10 0 []) [2] [_] I (A9 2 I (Bk 48 I w (Br 6 [.o 1 0, .x 4 P.1 (rB P.2)] I ⟨⟨ar, Ae au⟩, I, J⟩ (Ko I I I I ((tA I I I I).yd) dS (A9 1 I (An (vI (lg ⟨(((Cs b (min a 60)).1).Want == P.2), h, I2⟩ N4))))))))
 have h := B8 w h
 exact Bi (pd 10 0 []) [] [] I (A9 2 I (Bk 48 I w (A9 8 I (An (vI (lg ⟨false, h, I2⟩ N4))))))
 rintro s ob ⟨O, h, rfl, rfl⟩
 refine Ao h I ?_ ?_
 intro av h
 exact vQ (lg ⟨(d.1, d.2.1, d.2.2), g, i, h, I2⟩ [0, 1])
 intro av h
 refine vL ?_
 subst aq
 refine Aa fun bk aw => ?_
 obtain ⟨j, ⟨W, X⟩, h⟩ := Ba h
 refine vH (Al 5 [.x 2 j.1 (rB j.2)] I ⟨⟨W, Ae X⟩, J⟩ (vJ [2] I (A3 2 0 2 [[.V (((Cs b (min a 60)).1).Travel), .V (((Cs b (min a 60)).1).Open), .v (.bool j.2), .v (.bool (((Cs b (min a 60)).1).Stuck))]] I (vI ?_))))
 subst aw
 refine Aa fun bl ax => vH (Al 1 [.o 0 2] I J1 (vU (gF (⟨((Cs b (min a 60)).1).Travel, ((Cs b (min a 60)).1).Open, j.2, ((Cs b (min a 60)).1).Stuck⟩ : Valve) _ I) (Af 1 I (vI ?_))))
 subst ax
 refine Aa fun bm ay => Aj I (Ao h I ?_ ?_)
 intro az h
 refine Aj I ?_
 obtain rfl := S _ (oi h).symm
 have h := H
 have h := Do h
 refine vP (A7 54 7) (Cd [4] I ?_)
 cases io h
 exact vO ⟨.inr I, [_, _, _], [.us nS 54 7 ([].map Cg)], J3, Cy I (Cf), ⟨nS, I2⟩⟩
 intro az h
 refine vL ?_
 subst ay
 refine Aj I (Bl [.x 2 j.1 (rB j.2)] I ⟨⟨W, Ae X⟩, J⟩ (Ao h I ?_ ?_))
 intro a0 h
 obtain ⟨a1, a2, h⟩ := Ac h
 exact vH (Al 2 [.o 1 3] I J1 (wD (Av [] (K := []) I [(74, .agg [.V f.1, .V (e : Int), .V 0, .V 0, .V 0, .list 2 ([].map Cb), .V 0])] ⟨⟨_, I, .agg (.cons (.refl _) (.cons (.refl _) (.cons (.refl _) (.cons (.refl _) (.cons (.refl _) (.cons (.nil _) (.rest _)))))))⟩, J⟩ (ob' := [U2 g d.1, U2 i d.2.1, Yi D [[.V (((Cs b (min a 60)).1).Travel), .V (((Cs b (min a 60)).1).Open), .v (.bool j.2), .v (.bool (((Cs b (min a 60)).1).Stuck))]], .arr E 54 7 1 [[.V f.1, .V (e : Int), .V 0, .V 0, .V 0, .N, .V 0]]]) (.rest _)) (vJ [] I (vR 7 (([(⟨f.1, (e : Int), 0, (⟨0, 0, [], 0⟩ : Path)⟩ : Step)] : List Step).map Cg) (vJ [1] I (vV 1 I a2 fun a3 => Af 1 I (vI (lg ⟨(d.1, a1, (max d.2.2 (Ir (⟨((Cs b (min a 60)).1).Travel, ((Cs b (min a 60)).1).Open, j.2, ((Cs b (min a 60)).1).Stuck⟩ : Valve)))), g, a3, h, I2⟩ [0, 1]))))))))
 intro a0 h
 obtain ⟨a4, a5, h⟩ := Ac h
 exact vH (Al 2 [.o 1 3] I J1 (wD (Av [] (K := []) I [(78, .agg [.V f.1, .V (e : Int), .V 0, .V 0, .V 0, .list 2 ([].map Cb), .V 0])] ⟨⟨_, I, .agg (.cons (.refl _) (.cons (.refl _) (.cons (.refl _) (.cons (.refl _) (.cons (.refl _) (.cons (.nil _) (.rest _)))))))⟩, J⟩ (ob' := [U2 g d.1, U2 i d.2.1, Yi D [[.V (((Cs b (min a 60)).1).Travel), .V (((Cs b (min a 60)).1).Open), .v (.bool j.2), .v (.bool (((Cs b (min a 60)).1).Stuck))]], .arr E 54 7 1 [[.V f.1, .V (e : Int), .V 0, .V 0, .V 0, .N, .V 0]]]) (.rest _)) (vJ [] I (vR 7 (([(⟨f.1, (e : Int), 0, (⟨0, 0, [], 0⟩ : Path)⟩ : Step)] : List Step).map Cg) (vJ [0] I (vV 0 I a5 fun a6 => Af 1 I (vI (lg ⟨(a4, d.2.1, (max d.2.2 (Ir (⟨((Cs b (min a 60)).1).Travel, ((Cs b (min a 60)).1).Open, j.2, ((Cs b (min a 60)).1).Stuck⟩ : Valve)))), a6, i, h, I2⟩ [0, 1]))))))))
 rintro s ob ⟨u, A, B, h, rfl, rfl⟩
 unfold Rr.J3 at h
 refine vH (Al 2 [.k 0 (e + 1 : Nat)] I ⟨Bj R ab, J⟩ ?_)
 cases io h
 exact vI ⟨_, _, _, I, ⟨A, B, I2⟩, J8, pk [0, 1]⟩
 rintro d s ob ⟨g, i, rfl, rfl⟩ he
 subst he
 have h := Dn H
 have a7 := Dg n.Valves.length
 exact Aj I (Aa fun bn bo => Cm I a7 (vQ (lg ⟨(d.1, d.2.1, d.2.2), g, i, h, I2⟩ [0, 1])))
 rintro s ob ⟨t, F, G, h, rfl, rfl⟩
 refine vM ?_
 obtain ⟨a8, Y, h⟩ := Ac h
 refine vH (Af 2 I (vJ [0] I (F7 0 I I I I I I I I I (Mc 1 I I) (X0 (Ep Y).1) (Xz (Ep Y).2) dS fun Z => Af 4 I (vI (Cd [0] I ?_)))))
 cases io h
 exact vO ⟨.inr I, [_, _, _], [U2 Z a8], J3, Cy I (Cf), ⟨Z, I2⟩⟩
theorem iG (g : Nw) (i : Desk) (j : Plan) (b : Int) (e : Int) (r : Int) (h : Oi g i j b e = some r) : ACalls Ai 47 [.agg (Ab g), .agg (Bs i), .agg (Ak j), .V b, .V e] [] (RV (.V r)) := by
 refine Ag Tryz.func47 I I I fun C hC => ?_
 refine Aa fun w k => vH (vJ [] I (Bh (Ab g) 6 fun y => vJ [] I (Bh (Bs i) 4 fun A => vJ [] I (Bh (Ak j) 3 fun B => Af 1 I (vI ?_)))))
 subst k
 refine Aa fun D l => vM ?_
 obtain ⟨E, n, h⟩ := Ac h
 refine vH (Al 2 [.o 0 0, .o 1 1] I J2 (vU (iA _ _ _ n) (Af 1 I (vI (Aj I (Ao h I ?_ ?_))))))
 intro p h
 refine Aj I (vP g0 ?_)
 cases io h
 exact vO pr
 intro p h
 refine vL ?_
 subst l
 refine Aa fun F s => vM ?_
 obtain ⟨G, t, h⟩ := Ac h
 refine vH (Al 2 [.o 0 0, .o 1 2] I J2 (vU (Ij _ _ _ t) (Af 1 I (vI (Aj I (Ao h I ?_ ?_))))))
 intro u h
 refine Aj I (vP g0 ?_)
 cases io h
 exact vO pr
 intro u h
 refine vL ?_
 subst s
 refine vM (D2 38 (decide (b < 1) || (decide (b > 1000) || (decide (e < 0) || decide (e > 100)))) ?_ ?_)
 refine vH (Af 3 I ?_)
 rcases bt (decide (b < 1)) with a | a
 exact Ad 27 I a (Af 11 I (vI (jf (by simp only [a, bz]) I I I2)))
 refine Ad 27 I a (Af 4 I ?_)
 rcases bt (decide (b > 1000)) with d | d
 exact Ad 31 I d (Af 7 I (vI (jf (by simp only [a, d, bz]) I I I2)))
 refine Ad 31 I d (Af 4 I ?_)
 rcases bt (decide (e < 0)) with f | f
 exact Ad 35 I f (Af 3 I (vI (jf (by simp only [a, d, f, bz]) I I I2)))
 exact Ad 35 I f (Af 3 I (vI (jf (by simp only [a, d, f, bz]) I I I2)))
 refine Ao h I ?_ ?_
 intro v h
 refine Aj I (vP g0 ?_)
 cases io h
 exact vO pr
 intro v h
 refine vL (Aj I (vP g0 ?_))
 cases io h
 exact vO pr
theorem Vz (d : Int) (c : Nat) (e : List Step) (w1_0 : Value) (r : List Step) (h : Ry d e = some r) : ACalls Ai 51 [.V d, .P c] [O7 c [[.v w1_0]], U2 w1_0 e] (E7 2 fun x os new => ∃ (u0_0 : Value), x = .tup [] ∧ os = [O7 c [[.v u0_0]], U2 u0_0 r] ∧ new = []) := by
 refine Ag Tryz.func51 I I I fun C hC => ?_
 refine vN ?_
 obtain ⟨u, g, i⟩ := Ac h
 refine Bo g [(1, _)] J1 (fun (b : (List Step) × Int) s ob => ∃ (a : Value), s = [(0, .V b.2)] ∧ ob = [O7 c [[.v a]], U2 a b.1]) ⟨w1_0, I2⟩ ⟨I, J⟩ (pk [0, 1]) ?_
 rintro b w s ob ⟨a, rfl, rfl⟩ h j
 refine Aa fun y k => Aj I (Ao h I ?_ ?_)
 intro m h
 refine vL ?_
 subst k
 refine vM (vN ?_)
 obtain ⟨A, n, h⟩ := Ac h
 refine vH (Al 3 [.o 0 0] I J1 (Ch (Bd (l := [.V 6, .V 0, .V (min b.2 100), .V 0, .V 0, .N, .V 0]) Ec I) I (wD (Av [] (K := []) I [(10, .agg [.V 6, .V 0, .V (min b.2 100), .V 0, .V 0, .list 2 ([].map Cb), .V 0])] ⟨⟨_, I, .agg (.cons (.refl _) (.cons (.refl _) (.cons (.refl _) (.cons (.refl _) (.cons (.refl _) (.cons (.nil _) (.rest _)))))))⟩, J⟩ (ob' := [O7 c [[.v a]], U2 a b.1]) (.rest _)) (vJ [] I (vR 7 (([(⟨6, 0, (min b.2 100), (⟨0, 0, [], 0⟩ : Path)⟩ : Step)] : List Step).map Cg) (vJ [1] I (vV 1 I n fun f => wC 1 I fun t => vJ [0] I (vT 0 0 0 (es' := [[.v f]]) I I I I I I (A6 t) I (A4 I) I I (vI (vH (Af 3 I ?_)))))))))))
 cases io h
 exact vI ⟨_, _, _, I, ⟨f, I2⟩, J2, pk [0, 1]⟩
 intro m h
 obtain rfl := j _ (oi h).symm
 have h := i
 cases io h
 refine vQ ?_
 exact ⟨.inl I, [], [O7 c [[.v a]], U2 a b.1], J, Cy I (Cy I (Cf)), ⟨[O7 c [[.v a]], U2 a b.1], [], I, I, a, I3⟩⟩
theorem V5 (a : Path) (n : Int) (g : Int) (i : Int) (b : Nat) (j : List Step) (w4_0 : Value) (t : Int) (r : List Step) (h : Om a n g i j t = some r) : ACalls Ai 52 [.agg (Az a), .V n, .V g, .eptr (rI i), .P b, .eptr [.fn 51 [] [.P b]], .eptr (rI t)] [O7 b [[.v w4_0]], U2 w4_0 j] (E7 2 fun x os new => ∃ (u0_0 : Value), x = .tup [] ∧ os = [O7 b [[.v u0_0]], U2 u0_0 r] ∧ new = []) := by
 refine Ag Tryz.func52 I I I fun C hC => ?_
 refine Aa fun S A => vH (vJ [] I (Bh (Az a) 4 fun u => vI ?_))
 subst A
 refine Aa fun U B => ?_
 obtain ⟨f, D, h⟩ := Ac h
 refine vH (Al 2 [.o 1 2] I J1 (vJ [] I (Bp I I I (V3 _ _ D) dS ?_)))
 rintro _ _ ⟨k, rfl, rfl⟩
 refine Af 1 I (wC 3 I fun E => vJ [2] I (vT 2 0 2 (es' := [[.V a.In, .V a.Out, .v k, .V a.Rate]]) I I I I I I (A6 E) I (A4 I) I I (Af 1 I (vJ [2] I (A3 2 0 3 [[.V a.In, .V a.Out, .v k, .V 0]] I (vI ?_))))))
 subst B
 refine vN (vP (Av [3] (K := [U6 k f]) I [(12, Q7 f)] ⟨⟨_, I, .us 0 I⟩, J⟩ (ob' := [O7 b [[.v w4_0]], U2 w4_0 j, O3 u [[.V a.In, .V a.Out, Q7 f, .V 0]]]) (.cons (.same _) (.cons (.same _) (.cons (.arr (.cons (.refl _) (.cons (.refl _) (.cons (.us 0 I) (.rest _))))) (.rest _))))) ?_)
 obtain ⟨W, F, G⟩ := Ac h
 refine Bo F (K6 2 3 4 5 6 7) J6 (fun (e : (List Step) × Int) s ob => ∃ (c : Value), s = [(1, .V e.2)] ∧ ob = [O7 b [[.v c]], U2 c e.1, O3 u [[.V a.In, .V a.Out, Q7 f, .V 0]]]) ⟨w4_0, I2⟩ ⟨I, J⟩ (pk N3) ?_
 rintro e X s ob ⟨c, rfl, rfl⟩ h H
 refine Aa fun Y M => Aj I (Ao h I ?_ ?_)
 intro N h
 refine vL ?_
 subst M
 refine vM (vN (vM ?_))
 obtain ⟨Z, O, h⟩ := Ac h
 refine vH (Al 7 [.o 0 0, .o 6 2] I J2 (Ch (Bd (l := [.V 5, .V 0, .V (wr (g * (min e.2 i))), .V a.In, .V a.Out, Q7 f, .V 0]) Ec I) I (vJ [] I (vR 7 (([(⟨5, 0, wr (g * (min e.2 i)), (⟨a.In, a.Out, f, 0⟩ : Path)⟩ : Step)] : List Step).map Cg) (vJ [1] I (vV 1 I O fun w => wC 1 I fun P => vJ [0] I (vT 0 0 0 (es' := [[.v w]]) I I I I I I (A6 P) I (A4 I) I I (vI ?_))))))))
 obtain ⟨aa, Q, h⟩ := Ac h
 refine vH (vS (S2 I I (y := .fn 51 [] [.P b]) I) I (Af 1 I (vJ [0, 1] I (Es [0, 1] (Vz _ b _ w _ Q) ?_))))
 rintro _ _ _ - ⟨R, rfl, rfl, rfl⟩
 refine vI (vH (Af 4 I ?_))
 cases io h
 exact vI ⟨_, _, _, I, ⟨R, I2⟩, J7, pk N3⟩
 intro N h
 obtain rfl := H _ (oi h).symm
 have h := G
 refine Cd [0, 1] I ?_
 cases io h
 refine vQ ?_
 exact ⟨.inl I, [], [O7 b [[.v c]], U2 c e.1], J, Cy I (Cy I (Cf)), ⟨[O7 b [[.v c]], U2 c e.1], [], I, I, c, I3⟩⟩
theorem Po (n : Nw) (e : Desk) (a : Plan) (w : Int) (A : Int) (r : (List Step) × Int) (h : G1 n e a w A = some r) : ACalls Ai 16 [.agg (Ab n), .agg (Bs e), .agg (Ak a), .V w, .V A] [] (fun x new => ∃ (u0 : Value), x = .tup [.v u0, .V r.2] ∧ new = [U2 u0 r.1]) := by
 refine Ag Tryz.func16 I I I fun C hC => ?_
 refine Aa fun y1 b9 => vH (vJ [] I (Bh (Ab n) 6 fun H => vJ [] I (Bh (Bs e) 4 fun t => vJ [] I (Bh (Ak a) 3 fun f => vJ [] I (Bh [.V w] 1 fun b5 => vJ [] I (Bh [.V A] 1 fun b6 => Af 2 I (vI ?_)))))))
 subst b9
 refine Aa fun y7 ca => vM ?_
 obtain ⟨r8, cb, h⟩ := Ac h
 refine vH (Al 5 [.o 0 0, .o 1 1, .o 2 2, .o 3 3, .o 4 4] I J5 (vU (iG _ _ _ _ _ _ cb) (Af 1 I (vI (Aj I (Ao h I ?_ ?_))))))
 intro cc h
 refine Aj I (vP (A7 54 7) (Cd [5] I ?_))
 cases io h
 rotate_left
 intro cc h
 refine vL ?_
 subst ca
 refine Aa fun e9 cd => ?_
 obtain ⟨B, ce, h⟩ := Ac h
 refine vH (Al 2 [.o 0 0] I J1 (vS (Bv 1 0 1 I I I I I (y := .agg (Ak e.Plan)) I) I (vJ [] I (Bp I I I (Vj _ _ _ ce) dS ?_))))
 rintro _ _ ⟨U, rfl, rfl⟩
 refine Af 5 I (vI ?_)
 subst cd
 refine Aa fun fa cf => Aj I (Ao h I ?_ ?_)
 intro ci h
 refine Aj I (vP (A7 54 7) (Cd [6] I ?_))
 cases io h
 rotate_left
 intro ci h
 refine vL ?_
 subst cf
 refine Aa fun fb cj => ?_
 obtain ⟨D, ck, h⟩ := Ac h
 refine vH (Al 2 [.o 0 0, .o 1 2] I J2 (vJ [] I (Bp I I I (Vj _ _ _ ck) dS ?_)))
 rintro _ _ ⟨W, rfl, rfl⟩
 refine Af 5 I (vI ?_)
 subst cj
 refine Aa fun fc cl => Aj I (Ao h I ?_ ?_)
 intro cm h
 refine Aj I (vP (A7 54 7) (Cd [7] I ?_))
 cases io h
 any_goals
  exact vO ⟨.inr I, [_, _], [.us nS 54 7 ([].map Cg)], J2, Cy I (Cf), ⟨nS, I2⟩⟩
 intro cm h
 refine vL ?_
 subst cl
 refine Ah (fun s ob => ∃ (a9 : Unit), G1.J1 n e a w A B D a9 = some r ∧ s = [] ∧ ob = [O0 H [Ab n], O4 t [Bs e], O1 f [Ak a], qQ b5 [[.V w]], qQ b6 [[.V A]], U3 U B.1, U3 W D.1]) (K7 5 6 7 8 9 13 15) J7 ?_ ?_
 refine Bl [.o 1 2, .l 2 (a.Pumps.length : Int)] I ⟨A8, I, J⟩ (vN (Cu 64 I fun cn => ?_))
 obtain ⟨fd, co, ba⟩ := Ac h
 refine Cv co (K9 5 6 7 8 9 13 15 64 65) J9 (fun (ah : Nat) (bb : Unit) s ob => s = [(66, .V (ah : Int))] ∧ ob = [O0 H [Ab n], O4 t [Bs e], O1 f [Ak a], qQ b5 [[.V w]], qQ b6 [[.V A]], U3 U B.1, U3 W D.1]) ⟨I, I⟩ ⟨I, J⟩ (pk N7) ?_ ?_
 rintro ah bc bb cp s ob cq bd ⟨rfl, rfl⟩ h cr
 unfold G1.B14 at h
 have ct := Df bd
 refine Aj I (Aa fun fe cu => Cl I ct (vL ?_))
 subst cu
 refine vM (vN (Bl [.x 1 ah (rB bc)] I ⟨⟨I, Ae cq⟩, J⟩ (Ah (fun s ob => ∃ (az : Bool), G1.J15 az = some cp ∧ s = [(78, .v (.bool az))] ∧ ob = [O0 H [Ab n], O4 t [Bs e], O1 f [Ak a], qQ b5 [[.V w]], qQ b6 [[.V A]], U3 U B.1, U3 W D.1]) (rM 5 6 7 8 9 13 15 64 65 66) oF ?_ ?_)))
 refine vH (Af 2 I ?_)
 rcases bt (bc) with X | X
 have h := B0 X h
 obtain ⟨cv, cw, h⟩ := Ac h
 exact Ad 72 I X (Al 3 [.o 0 0, .o 1 2] I J2 (Bf I I I (vU (Vo _ _ _ _ cw) (Af 2 I (vI (lg ⟨(!cv), h, I2⟩ N7))))))
 have h := B8 X h
 exact Ad 72 I X (Af 6 I (vI (lg ⟨false, h, I2⟩ N7)))
 rintro s ob ⟨az, h, rfl, rfl⟩
 refine Ao h I ?_ ?_
 intro cx h
 refine Aj I ?_
 obtain rfl := cr _ (oi h).symm
 have h := ba
 have h := Do h
 refine vP (A7 54 7) (Cd [7] I ?_)
 cases io h
 exact vO ⟨.inr I, [_, _], [.us nS 54 7 ([].map Cg)], J2, Cy I (Cf), ⟨nS, I2⟩⟩
 intro cx h
 refine vL (vH (Al 2 [.k 0 (ah + 1 : Nat)] I ⟨Bj bd cn, J⟩ ?_))
 cases io h
 exact vI ⟨_, _, _, I, I2, oF, pk N7⟩
 rintro bb s ob ⟨rfl, rfl⟩ he
 subst he
 have h := Dn ba
 have cy := Dg a.Pumps.length
 exact Aj I (Aa fun ff fg => Cm I cy (vQ (lg ⟨(), h, I2⟩ N7)))
 rintro s ob ⟨a9, h, rfl, rfl⟩
 refine Aa fun fh cz => ?_
 obtain ⟨u, c0, h⟩ := Ac h
 refine vH (Al 2 [.o 0 0, .o 1 2] I J2 (vJ [] I (Bp I I I (Vy _ _ _ c0) dS ?_)))
 rintro _ _ ⟨rfl, rfl⟩
 refine Af 3 I (vJ [] I (Bm [.N, .N] 2 fun E => vJ [7] I (A3 7 0 0 [C7 u.1] I (Af 1 I (vI ?_)))))
 subst cz
 refine Aa fun fi c1 => Aj I (Ao h I ?_ ?_)
 intro c2 h
 refine Aj I (vP (A7 54 7) (Cd [8] I ?_))
 cases io h
 exact vO ⟨.inr I, [_, _], [.us nS 54 7 ([].map Cg)], J2, Cy I (Cf), ⟨nS, I2⟩⟩
 intro c2 h
 refine vL ?_
 subst c1
 refine Aa fun fj c3 => vH (vJ [] I (Bm [.N] 1 fun b => vI ?_))
 subst c3
 refine Aa fun fk c4 => vH (Ch (Yp.makeFunc I I) I (vJ [] I (Bm [.v (.nilFunc)] 1 fun c5 => vJ [9] I (A3 9 0 0 [[.fn 51 [] [.P b]]] I (vI ?_)))))
 subst c4
 refine Aa fun fl c6 => vH (wD (Av [3, 4, 9] (K := [qQ b5 [[.V w]], qQ b6 [[.V A]], .arr c5 104 1 1 [[.fn 51 [] [.P b]]]]) I [(8, .eptr (rI w)), (9, .eptr (rI A)), (20, .eptr [.fn 51 [] [.P b]])] ⟨⟨_, I, .box 0 I (.rest _)⟩, ⟨_, I, .box 1 I (.rest _)⟩, ⟨_, I, .box 2 I (.rest _)⟩, J⟩ (ob' := [O0 H [Ab n], O4 t [Bs e], O1 f [Ak a], U3 U B.1, U3 W D.1, O8 E [C7 u.1], O7 b [[.N]]]) (.rest _)) (Ch (Yp.makeFunc I I) I (Af 1 I (vI ?_))))
 subst c6
 refine Aa fun fm c7 => ?_
 obtain ⟨Y, c8, h⟩ := Ac h
 refine vH (Al 3 [.o 0 0] I J1 (wD (Av [3, 4] (K := [U3 U B.1, U3 W D.1]) I [(13, Q6 B.1), (15, Q6 D.1), (92, Q6 B.1), (93, Q6 D.1)] ⟨⟨_, I, .us 0 I⟩, ⟨_, I, .us 1 I⟩, ⟨_, I, .us 0 I⟩, ⟨_, I, .us 1 I⟩, J⟩ (ob' := [O0 H [Ab n], O4 t [Bs e], O1 f [Ak a], O8 E [C7 u.1], O7 b [[.N]]]) (.rest _)) (vJ [] I (Bp I I I (fW _ _ _ _ c8) dS ?_))))
 rintro _ _ ⟨rfl, rfl⟩
 refine vJ [] I (Bm W0 3 fun ai => vJ [5] I (A3 5 0 0 [Ak Y] I (vI ?_)))
 subst c7
 refine Aa fun fo c9 => ?_
 obtain ⟨da, db, h⟩ := Ac h
 refine vH (Al 3 [.o 2 1] I J1 (vJ [] I (Bp I I I (hZ _ _ db) dS ?_)))
 rintro _ _ ⟨i, rfl, rfl⟩
 refine Af 1 I (vI ?_)
 subst c9
 refine Ah (fun s ob => ∃ (g : (List Step) × (List Bool)) (aj : Value), G1.J2 e a w A B D u g = some r ∧ s = [] ∧ ob = [O4 t [Bs e], O1 f [Ak a], O8 E [C7 u.1], O7 b [[.v aj]], U1 i g.2, U2 aj g.1]) (K9 6 7 13 15 18 19 20 21 23) J9 ?_ ?_
 refine Aa fun fp dc => vH (Af 1 I (vS (By 6 I I I I) I (Af 1 I (vI ?_))))
 subst dc
 refine vN (P1 6 I fun dd => vP (A7 54 7) ?_)
 obtain ⟨fq, de, df⟩ := Ac h
 refine Ib de [(5, _), (6, _), (7, _), (13, _), (15, _), (18, _), (19, _), (20, _), (21, _), (22, _), (23, _), (99, _), (100, _)] uN (fun (Q : Nat) (j : (List Step) × (List Bool)) s ob => ∃ (F : Value), s = [(101, .V (Q : Int))] ∧ ob = [O0 H [Ab n], O4 t [Bs e], O1 f [Ak a], O8 E [C7 u.1], O7 b [[.v F]], O1 ai [Ak Y], U1 i j.2, U2 F j.1]) ⟨nS, I2⟩ ⟨I, J⟩ (pk N8) ?_ ?_
 rintro Q j be s ob bf ⟨F, rfl, rfl⟩ h
 unfold G1.B11 at h
 have dg := Df bf
 refine Aj I (Aa fun fr dh => Cl I dg (vL ?_))
 subst dh
 refine Ah (fun s ob => ∃ (ak : (List Step) × (List Bool)) (al : Value), G1.J12 ak = some be ∧ s = [] ∧ ob = [O0 H [Ab n], O4 t [Bs e], O1 f [Ak a], O8 E [C7 u.1], O7 b [[.v al]], O1 ai [Ak Y], U1 i ak.2, U2 al ak.1]) [(5, _), (6, _), (7, _), (13, _), (15, _), (18, _), (19, _), (20, _), (21, _), (22, _), (23, _), (99, _), (100, _), (101, _)] uP ?_ ?_
 refine vN (Aa fun fs di => ?_)
 obtain ⟨M, ⟨bg, am⟩, h⟩ := Ba h
 refine vH (Af 1 I (vS (Bb 6 (m := M.1) I I I I I I I bg (Ae am)) I (vS (Au 6 M.1 0 I I I (Ae am) I (y := .v (.bool M.2)) I) I (Af 2 I (vI ?_)))))
 subst di
 refine Ah (fun s ob => ∃ (a0 : Bool), G1.J13 Q j M a0 = some be ∧ s = [(121, .v (.bool a0))] ∧ ob = [O0 H [Ab n], O4 t [Bs e], O1 f [Ak a], O8 E [C7 u.1], O7 b [[.v F]], O1 ai [Ak Y], U1 i j.2, U2 F j.1]) [(5, _), (6, _), (7, _), (13, _), (15, _), (18, _), (19, _), (20, _), (21, _), (22, _), (23, _), (24, _), (99, _), (100, _), (101, _)] uV ?_ ?_
 refine vH (Af 2 I ?_)
 rcases bt (M.2) with Z | Z
 have h := B0 Z h
 obtain ⟨aa, ⟨bh, bi⟩, h⟩ := Ba h
 refine Ad 107 I Z ?_
 rcases bt ((!aa.2)) with ab | ab
 have h := B0 ab h
 exact Al 7 [.o 1 2, .x 3 aa.1 (rB aa.2)] I ⟨⟨bh, Ae bi⟩, I, J⟩ (Ad 114 I ab (Af 7 I (vI (lg ⟨true, h, I2⟩ N8))))
 have h := B8 ab h
 obtain ⟨dj, dk, h⟩ := Ac h
 exact Al 7 [.o 1 2, .x 3 aa.1 (rB aa.2)] I ⟨⟨bh, Ae bi⟩, I, J⟩ (Ad 114 I ab (Al 3 [.o 0 0, .o 1 5] I J2 (Bf I I I (vU (Vo _ _ _ _ dk) (Af 3 I (vI (lg ⟨(!dj), h, I2⟩ N8)))))))
 have h := B8 Z h
 exact Ad 107 I Z (Af 7 I (Ce I I dS (Ce I I dS (Ce I I dS (Ce I I dS (Ce I I dS (Af 2 I (vI (lg ⟨false, h, I2⟩ N8)))))))))
 rintro s ob ⟨a0, h, rfl, rfl⟩
 refine Ao h I ?_ ?_
 intro dl h
 refine vM (vH (Af 2 I (vS (Bb 6 (m := M.1) I I I I I I I bg (Ae am)) I (vJ [6] I (Bg 6 M.1 0 I I I (Ae am) I I I I (A4 I) I (Ci (x := false) I) (vI ?_))))))
 obtain ⟨dm, dn, h⟩ := Ac h
 exact vH (Al 2 [.o 0 4] I J1 (Ch (Bd (l := [.V 4, .V (Q : Int), .V 0, .V 0, .V 0, .N, .V 0]) Ec I) I (wD (Av [] (K := []) I [(127, .agg [.V 4, .V (Q : Int), .V 0, .V 0, .V 0, .list 2 ([].map Cb), .V 0])] ⟨⟨_, I, .agg (.cons (.refl _) (.cons (.refl _) (.cons (.refl _) (.cons (.refl _) (.cons (.refl _) (.cons (.nil _) (.rest _)))))))⟩, J⟩ (ob' := [O0 H [Ab n], O4 t [Bs e], O1 f [Ak a], O8 E [C7 u.1], O7 b [[.v F]], O1 ai [Ak Y], .us i 4 1 ((j.2.set M.1 false).map rB), U2 F j.1]) (.rest _)) (vJ [] I (vR 7 (([(⟨4, (Q : Int), 0, (⟨0, 0, [], 0⟩ : Path)⟩ : Step)] : List Step).map Cg) (vJ [7] I (vV 7 I dn fun bj => wC 7 I fun dp => vJ [4] I (vT 4 0 0 (es' := [[.v bj]]) I I I I I I (A6 dp) I (A4 I) I I (vI (lg ⟨(dm, (j.2.set M.1 false)), bj, h, I2⟩ N8))))))))))
 intro dl h
 exact vL (lg ⟨(j.1, j.2), F, h, I2⟩ N8)
 rintro s ob ⟨ak, al, h, rfl, rfl⟩
 unfold G1.J12 at h
 refine vH (Al 2 [.k 0 (Q + 1 : Nat)] I ⟨Bj bf dd, J⟩ ?_)
 cases io h
 exact vI (lg ⟨al, I2⟩ N8)
 rintro j s ob ⟨F, rfl, rfl⟩ he
 subst he
 have h := df
 have dq := Dg da.length
 exact Aj I (Aa fun ft fu => Cm I dq (vQ (lg ⟨(j.1, j.2), F, h, I2⟩ [1, 2, 3, 4, 6, 7])))
 rintro s ob ⟨g, aj, h, rfl, rfl⟩
 unfold G1.J2 at h
 refine Ah (fun s ob => ∃ (an : List Step) (ac : Value), G1.J3 e a w A B D u g an = some r ∧ s = [] ∧ ob = [O4 t [Bs e], O1 f [Ak a], O8 E [C7 u.1], O7 b [[.v ac]], U1 i g.2, U2 ac an]) (K9 6 7 13 15 18 19 20 21 23) J9 ?_ ?_
 refine Aa fun fv dr => ?_
 obtain ⟨bk, ds, h⟩ := Ac h
 refine vH (Af 2 I (vJ [] I (Bp I I I (Wg _ _ _ ds) dS ?_)))
 rintro _ _ ⟨dt, rfl, rfl⟩
 refine vS (By 6 I I I I) I (Af 1 I (vI ?_))
 subst dr
 refine vN (P1 6 I fun du => ?_)
 obtain ⟨fw, dv, dw⟩ := Ac h
 refine Ib dv [(6, _), (7, _), (13, _), (15, _), (18, _), (19, _), (20, _), (21, _), (23, _), (133, _), (134, _)] qR (fun (a1 : Nat) (ao : List Step) s ob => ∃ (R : Value), s = [(135, .V (a1 : Int))] ∧ ob = [O4 t [Bs e], O1 f [Ak a], O8 E [C7 u.1], O7 b [[.v R]], U1 i g.2, U2 R ao, U0 dt bk]) ⟨aj, I2⟩ ⟨I, J⟩ (pk N7) ?_ ?_
 rintro a1 ao fx s ob bl ⟨R, rfl, rfl⟩ h
 have dx := Df bl
 refine Aj I (Aa fun fy dy => Cl I dx (vL ?_))
 subst dy
 refine vM (vN (Aa fun fz dz => ?_))
 obtain ⟨a2, ⟨d0, bm⟩, h⟩ := Ba h
 refine vH (Af 1 I (vS (Bb 6 (m := a2.1) I I I I I I I d0 (Ae bm)) I (vS (Au 6 a2.1 0 I I I (Ae bm) I (y := .V a2.2) I) I (Af 2 I (vI ?_)))))
 subst dz
 obtain ⟨aq, ⟨bn, bo⟩, h⟩ := Ba h
 obtain ⟨f0, d1, h⟩ := Ac h
 refine Bi (pd 13 0 [12]) [] [] I (Br 12 [.x 3 aq.1 (Az aq.2), .x 7 aq.1 (Az aq.2)] I ⟨⟨bn, Ae bo⟩, ⟨bn, Ae bo⟩, J⟩ (vK [3, 5] I I I (Es [3, 5] (V5 _ _ _ _ b _ R _ _ d1) ?_)))
 rintro _ _ _ - ⟨d2, rfl, rfl, rfl⟩
 refine An (vI (vH (Al 2 [.k 0 (a1 + 1 : Nat)] I ⟨Bj bl du, J⟩ ?_)))
 cases io h
 exact vI (lg ⟨d2, I2⟩ N7)
 rintro ao s ob ⟨R, rfl, rfl⟩ he
 subst he
 have h := dw
 have d3 := Dg bk.length
 exact Aj I (Aa fun f1 f2 => Cm I d3 (vQ (lg ⟨ao, R, h, I2⟩ N6)))
 rintro s ob ⟨an, ac, h, rfl, rfl⟩
 refine Aa fun f3 d4 => ?_
 obtain ⟨f4, d5, h⟩ := Ac h
 obtain ⟨bp, d6, h⟩ := Ac h
 obtain ⟨f5, d7, h⟩ := Ac h
 refine Bi (.still 0 (.still 1 (.still 3 (.act 2 (.act 4 (.act 5 (sl 7 6 .nil))))))) [0, 3, 2] [_, _, _] I (Br 3 [.o 0 0, .o 1 1, .o 2 2] I J3 (vK [] I I I (Cw I (.refl _) I I (.cons (.us 5 I) (.rest _)) I (iI _ _ d5) dS (by rintro _ _ ⟨rfl, _⟩; rfl) ?_)))
 rintro _ ⟨_, rfl, -⟩
 refine vK [] I I I (Bp I I I (Vp _ _ d6) dS ?_)
 rintro _ _ ⟨d8, rfl, rfl⟩
 refine Gx (Av [6] (K := [U1 d8 bp]) I [(159, Q2 bp)] ⟨⟨_, I, .us 0 I⟩, J⟩ (ob' := [O4 t [Bs e], O1 f [Ak a], O8 E [C7 u.1], O7 b [[.v ac]], U1 i g.2, U2 ac an]) (.rest _)) I (vK [] I I I (Bp I I I (gY _ _ _ _ d7) dS ?_))
 rintro _ _ ⟨f6, rfl, rfl⟩
 refine A9 7 I (An (vI ?_))
 subst d4
 refine Aa fun f7 d9 => Aj I (Ao h I ?_ ?_)
 intro ea h
 refine Aj I (vP (A7 54 7) (Cd [7] I ?_))
 cases io h
 exact vO ⟨.inr I, [_, _], [.us nS 54 7 ([].map Cg)], J2, Cy I (Cf), ⟨nS, I2⟩⟩
 intro ea h
 refine vL ?_
 subst d9
 refine Aa fun f8 eb => ?_
 obtain ⟨f9, bq, h⟩ := Ac h
 refine vH (Al 2 [.o 0 3] I J1 (vJ [5] I (F7 5 I I I I I I I I I (Mc 6 I I) (X0 (Ep bq).1) (Xz (Ep bq).2) dS fun br => wC 5 I fun ec => vJ [3] I (vT 3 0 0 (es' := [[.v br]]) I I I I I I (A6 ec) I (A4 I) I I (vI ?_)))))
 subst eb
 refine Aa fun ga ed => ?_
 obtain ⟨gb, ee, h⟩ := Ac h
 refine vH (vS (S2 I I (y := .fn 51 [] [.P b]) I) I (Af 1 I (vJ [3, 5] I (Es [3, 5] (Vz _ b _ br _ ee) ?_))))
 rintro _ _ _ - ⟨ef, rfl, rfl, rfl⟩
 refine vI ?_
 subst ed
 refine Ah (fun s ob => ∃ (a3 : List Step) (ar : Value), G1.J4 a g a3 = some r ∧ s = [] ∧ ob = [O1 f [Ak a], O7 b [[.v ar]], U1 i g.2, U2 ar a3]) (K3 7 19 23) J3 ?_ ?_
 refine Aa fun gc eg => ?_
 obtain ⟨bs, eh, h⟩ := Ac h
 refine vH (Af 2 I (vJ [] I (Bp I I I (Wg _ _ _ eh) dS ?_)))
 rintro _ _ ⟨ei, rfl, rfl⟩
 refine vS (By 7 I I I I) I (Af 1 I (vI ?_))
 subst eg
 refine vN (P1 7 I fun ej => ?_)
 obtain ⟨gd, ek, el⟩ := Ac h
 refine Ib ek (K7 7 15 19 21 23 174 175) J7 (fun (a4 : Nat) (au : List Step) s ob => ∃ (S : Value), s = [(176, .V (a4 : Int))] ∧ ob = [O1 f [Ak a], O7 b [[.v S]], U1 i g.2, U2 S au, U0 ei bs]) ⟨ef, I2⟩ ⟨I, J⟩ (pk [1, 3, 4, 5, 7]) ?_ ?_
 rintro a4 au ge s ob bu ⟨S, rfl, rfl⟩ h
 have em := Df bu
 refine Aj I (Aa fun gf en => Cl I em (vL ?_))
 subst en
 refine vM (vN (Aa fun gg eo => ?_))
 obtain ⟨a5, ⟨ep, bv⟩, h⟩ := Ba h
 refine vH (Af 1 I (vS (Bb 4 (m := a5.1) I I I I I I I ep (Ae bv)) I (vS (Au 4 a5.1 0 I I I (Ae bv) I (y := .V a5.2) I) I (Af 2 I (vI ?_)))))
 subst eo
 obtain ⟨av, ⟨bw, bx⟩, h⟩ := Ba h
 obtain ⟨gh, eq, h⟩ := Ac h
 refine Bi (pd 13 0 [12]) [] [] I (Br 12 [.x 3 av.1 (Az av.2), .x 7 av.1 (Az av.2)] I ⟨⟨bw, Ae bx⟩, ⟨bw, Ae bx⟩, J⟩ (vK [1, 3] I I I (Es [1, 3] (V5 _ _ _ _ b _ S _ _ eq) ?_)))
 rintro _ _ _ - ⟨er, rfl, rfl, rfl⟩
 refine An (vI (vH (Al 2 [.k 0 (a4 + 1 : Nat)] I ⟨Bj bu ej, J⟩ ?_)))
 cases io h
 exact vI (lg ⟨er, I2⟩ N5)
 rintro au s ob ⟨S, rfl, rfl⟩ he
 subst he
 have h := el
 have es := Dg bs.length
 exact Aj I (Aa fun gi gj => Cm I es (vQ (lg ⟨au, S, h, I2⟩ N4)))
 rintro s ob ⟨a3, ar, h, rfl, rfl⟩
 unfold G1.J4 at h
 refine Ah (fun s ob => ∃ (aw : List Step) (ad : Value), G1.J5 aw = some r ∧ s = [] ∧ ob = [O7 b [[.v ad]], U2 ad aw]) [(19, _)] J1 ?_ ?_
 refine Bl [.o 1 0, .l 2 (a.Pumps.length : Int)] I ⟨A8, I, J⟩ (vN (Cu 196 I fun et => ?_))
 obtain ⟨gk, eu, ev⟩ := Ac h
 refine Dm eu (K4 19 23 196 197) J4 (fun (O : Nat) (P : List Step) s ob => ∃ (G : Value), s = [(198, .V (O : Int))] ∧ ob = [O7 b [[.v G]], U1 i g.2, U2 G P]) ⟨ar, I2⟩ ⟨I, J⟩ (pk [1, 2, 3]) ?_ ?_
 rintro O bz P b0 s ob ew b1 ⟨G, rfl, rfl⟩ h
 unfold G1.B6 at h
 have ex := Df b1
 refine Aj I (Aa fun gl ey => Cl I ex (vL ?_))
 subst ey
 refine Ah (fun s ob => ∃ (a6 : List Step) (ax : Value), G1.J7 a6 = some b0 ∧ s = [] ∧ ob = [O7 b [[.v ax]], U1 i g.2, U2 ax a6]) (K5 19 23 196 197 198) J5 ?_ ?_
 refine vN (Bl [.x 1 O (rB bz)] I ⟨⟨I, Ae ew⟩, J⟩ (Ah (fun s ob => ∃ (a7 : Bool), G1.J8 O P a7 = some b0 ∧ s = [(210, .v (.bool a7))] ∧ ob = [O7 b [[.v G]], U1 i g.2, U2 G P]) (K6 19 23 33 196 197 198) J6 ?_ ?_))
 refine vH (Af 2 I ?_)
 rcases bt (bz) with ae | ae
 have h := B0 ae h
 obtain ⟨ay, ⟨ez, b7⟩, h⟩ := Ba h
 exact Ad 204 I ae (Af 2 I (Bf I I I (vS (Bb 1 (m := ay.1) I I I I I I I ez (Ae b7)) I (Bf I I I (vS (Au 1 ay.1 0 I I I (Ae b7) I (y := .v (.bool ay.2)) I) I (Af 2 I (vI (lg ⟨(!ay.2), h, I2⟩ N3))))))))
 have h := B8 ae h
 exact Ad 204 I ae (Af 6 I (vI (lg ⟨false, h, I2⟩ N3)))
 rintro s ob ⟨a7, h, rfl, rfl⟩
 refine Ao h I ?_ ?_
 intro e0 h
 obtain ⟨e1, e2, h⟩ := Ac h
 exact vH (Al 2 [.o 0 0] I J1 (Ch (Bd (l := [.V 3, .V (O : Int), .V 0, .V 0, .V 0, .N, .V 0]) Ec I) I (wD (Av [] (K := []) I [(213, .agg [.V 3, .V (O : Int), .V 0, .V 0, .V 0, .list 2 ([].map Cb), .V 0])] ⟨⟨_, I, .agg (.cons (.refl _) (.cons (.refl _) (.cons (.refl _) (.cons (.refl _) (.cons (.refl _) (.cons (.nil _) (.rest _)))))))⟩, J⟩ (ob' := [O7 b [[.v G]], U1 i g.2, U2 G P]) (.rest _)) (vJ [] I (vR 7 (([(⟨3, (O : Int), 0, (⟨0, 0, [], 0⟩ : Path)⟩ : Step)] : List Step).map Cg) (vJ [2] I (vV 2 I e2 fun b8 => wC 2 I fun e3 => vJ [0] I (vT 0 0 0 (es' := [[.v b8]]) I I I I I I (A6 e3) I (A4 I) I I (vI (lg ⟨e1, b8, h, I2⟩ N3))))))))))
 intro e0 h
 exact vL (lg ⟨P, G, h, I2⟩ N3)
 rintro s ob ⟨a6, ax, h, rfl, rfl⟩
 unfold G1.J7 at h
 refine vH (Al 2 [.k 0 (O + 1 : Nat)] I ⟨Bj b1 et, J⟩ ?_)
 cases io h
 exact vI (lg ⟨ax, I2⟩ N3)
 rintro P s ob ⟨G, rfl, rfl⟩ he
 subst he
 have h := ev
 have e4 := Dg a.Pumps.length
 exact Aj I (Aa fun gm gn => Cm I e4 (vQ (lg ⟨P, G, h, I2⟩ [0, 2])))
 rintro s ob ⟨aw, ad, h, rfl, rfl⟩
 refine vM (vM (vH (Al 1 [.o 0 0] I J1 (vS (By 1 I I I I) I (Af 1 I (vI (Ao h I ?_ ?_)))))))
 intro e5 h
 refine Aj I (vP (A7 54 7) (Cd [2] I ?_))
 cases io h
 exact vO ⟨.inr I, [_, _], [.us nS 54 7 ([].map Cg)], J2, Cy I (Cf), ⟨nS, I2⟩⟩
 intro e5 h
 refine vL (Bl [.o 0 0] I J1 (Cd [1] I ?_))
 cases io h
 exact vO ⟨.inr I, [_, _], [U2 ad aw], J2, Cy I (Cf), ⟨ad, I2⟩⟩
theorem iM (c : Nw) (i : Desk) (t : Int) (u : Int) (r : (List Step) × Int) (h : On c i t u = some r) : ACalls Ai 33 [.agg (Ab c), .agg (Bs i), .V t, .V u] [] (fun x new => ∃ (w : Value), x = .tup [.v w, .V r.2] ∧ new = [U2 w r.1]) := by
 refine Ag Tryz.func33 I I I fun C hC => ?_
 unfold On at h
 refine Aa fun y1 M => vH (vJ [] I (Bh (Ab c) 6 fun y => vJ [] I (Bh (Bs i) 4 fun z => Af 2 I (vI ?_))))
 subst M
 refine Ah (fun s ob => ∃ (a : Li × Li × (List Bool)) (j : Nat) (k : Value) (n : Value) (p : Value), On.J1 c i t u a = some r ∧ s = [(10, .P j)] ∧ ob = [O0 y [Ab c], O4 z [Bs i], U0 k a.1, U0 n a.2.1, U1 p a.2.2, O1 j [[.v k, .v n, .v p]]]) (K4 2 3 4 5) J4 ?_ ?_
 obtain ⟨A, ⟨ad, O, P, Q⟩, h⟩ := Fo h
 obtain ⟨B, ⟨ae, R, S, U⟩, h⟩ := Fo h
 obtain ⟨D, ⟨af, W, X, Y⟩, h⟩ := Fo h
 refine Bi rL [0] [_] I (Br 9 [.o 1 0, .l 2 (c.Segments.length : Int), .o 4 0, .l 5 (c.Ports.length : Int), .o 7 0, .l 8 (c.Stations.length : Int)] I ⟨A8, I, A8, I, A8, I, J⟩ (AP.any [⟨3, [], 14, .us 3 1 (A.map rI)⟩, ⟨7, [], 18, .us 3 1 (B.map rI)⟩, ⟨11, [], 22, .us 4 1 (D.map rB)⟩, ⟨13, [], 10, .box 37 3 (W0)⟩, ⟨12, [3, 7, 11], 23, .fn fun l => match l with | [.v d, .v e, .v g] => .agg [.v d, .v e, .v g] | _ => .tup []⟩] I ⟨⟨_, I, I, I, fun _ => Dq (sz := 1) I I I I I I I I I I O P (D5 (f := rI) Q I) dS fun v => ⟨_, I, ⟨v, I⟩, I⟩⟩, ⟨_, I, I, I, fun _ => Dq (sz := 1) I I I I I I I I I I R S (D5 (f := rI) U I) dS fun v => ⟨_, I, ⟨v, I⟩, I⟩⟩, ⟨_, I, I, I, fun _ => Dq (sz := 1) I I I I I I I I I I W X (D5 (f := rB) Y I) dS fun v => ⟨_, I, ⟨v, I⟩, I⟩⟩, ⟨_, I, I, I, fun _ => Bm W0 3 fun b => ⟨_, I, ⟨b, I⟩, I⟩⟩, ⟨_, I, I, I, fun d E e F g G _ => Ay (wB (Bd (l := [.v d, .v e, .v g]) Dj (Bu I I (A6 E) I (Bu I I (A6 F) I (Bu I I (A6 G) I (Eb)))))) dS ⟨_, I, I, nb⟩⟩, J⟩ ?_))
 intro d E e F g G Z
 exact AP.same 23 (.agg [.v d, .v e, .v g]) I (vK [5] I I I (A3 5 0 0 [[.v d, .v e, .v g]] I (An (vI (lg ⟨(A, B, D), Z, d, e, g, h, I2⟩ N6)))))
 rintro s ob ⟨a, j, k, n, p, h, rfl, rfl⟩
 refine vM ?_
 obtain ⟨aa, ab, h⟩ := Ac h
 refine vH (Al 5 [.o 0 0, .o 1 1, .o 2 5] I J3 (wD (Av [2, 3, 4] (K := [U0 k a.1, U0 n a.2.1, U1 p a.2.2]) I [(26, .agg [Q0 a.1, Q0 a.2.1, Q2 a.2.2])] ⟨⟨_, I, .agg (.cons (.us 0 I) (.cons (.us 1 I) (.cons (.us 2 I) (.rest _))))⟩, J⟩ (ob' := [O0 y [Ab c], O4 z [Bs i], O1 j [[Q0 a.1, Q0 a.2.1, Q2 a.2.2]]]) (.cons (.same _) (.cons (.same _) (.cons (.arr (.cons (.us 0 I) (.cons (.us 1 I) (.cons (.us 2 I) (.rest _))))) (.rest _))))) (vJ [] I (Bp I I I (Po _ _ _ _ _ _ ab) dS ?_))))
 rintro _ _ ⟨H, rfl, rfl⟩
 refine Af 4 I (vI (Cd [3] I ?_))
 cases io h
 exact vO ⟨.inr I, [_, _], [U2 H aa.1], J2, Cy I (Cf), ⟨H, I2⟩⟩
theorem Pq (b : List Step) (r : Int) (h : Oe b = some r) : ACalls Ai 17 [Q9 b] [] (RV (.V r)) := by
 refine Ag Tryz.func17 I I I fun C hC => ?_
 unfold Oe at h
 refine Aj I (Aj I (Ah (fun s ob => ∃ (e : Int), Oe.J1 e = some r ∧ s = [(3, .V e)] ∧ ob = []) [] J ?_ ?_))
 refine Bl [.l 1 (b.length : Int)] I ⟨A8, J⟩ (vN (Cu 6 I fun i => ?_))
 obtain ⟨E, j, n⟩ := Ac h
 refine Dm j (K2 6 7) J2 (fun (c : Nat) (a : Int) s ob => s = [(8, .V (c : Int)), (3, .V a)] ∧ ob = []) ⟨I, I⟩ ⟨I, I, J⟩ (pk []) ?_ ?_
 rintro c d a t s ob u g ⟨rfl, rfl⟩ h
 unfold Oe.B2 at h
 have w := Df g
 refine Aj I (Aa fun F y => Cl I w (vL ?_))
 subst y
 refine Ah (fun s ob => ∃ (f : Int), Oe.J3 f = some t ∧ s = [(3, .V f)] ∧ ob = []) (K3 6 7 8) J3 ?_ ?_
 refine vN (Aa fun G A => vH (Al 2 [.x 0 c (Cg d)] I ⟨⟨I, Ae u⟩, J⟩ (vJ [] I (Bm W8 7 fun H => vJ [0] I (A3 0 0 0 [Cg d] I (vI ?_))))))
 subst A
 refine Bl [.o 1 0] I J1 (Ao h I ?_ ?_)
 intro B h
 exact vH (Al 6 [.o 2 0, .o 4 0] I J2 (Ch (Zx I I I) I (Af 1 I (vI (lg ⟨(max (max a d.Value) (wr (0 - d.Value))), h, I2⟩ [])))))
 intro B h
 exact vL (lg ⟨a, h, I2⟩ [])
 rintro s ob ⟨f, h, rfl, rfl⟩
 unfold Oe.J3 at h
 refine vH (Al 2 [.k 0 (c + 1 : Nat)] I ⟨Bj g i, J⟩ ?_)
 cases io h
 exact vI (lg I2 [])
 rintro a s ob ⟨rfl, rfl⟩ he
 subst he
 have h := n
 have D := Dg b.length
 exact Aj I (Aa fun K M => Cm I D (vQ (lg ⟨a, h, I2⟩ [])))
 rintro s ob ⟨e, h, rfl, rfl⟩
 unfold Oe.J1 at h
 refine Aj I ?_
 cases io h
 exact vO pr
end Go.Proofs.YtmaamhgjeampmaaGreat
