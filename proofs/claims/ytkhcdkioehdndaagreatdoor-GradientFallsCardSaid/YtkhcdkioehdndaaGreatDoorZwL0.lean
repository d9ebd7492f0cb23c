/- Walks that show what functions of the program compute; printed by a program of ours. No condition. -/
import Derived.Test.YtkhcdkioehdndaaGreatDoorZwD
import Derived.Test.YtkhcdkioehdndaaGreatDoorZwB2
set_option maxRecDepth 100000
namespace Go.Proofs.YtkhcdkioehdndaaGreatDoor
open Go.Aw
set_option linter.unusedVariables false
set_option linter.unusedSimpArgs false
set_option maxHeartbeats 4000000
theorem Bq (a : Int) (c : Int) (d : Int) (r : Bool) (h : Bf a c d = r) : ACalls Ae 124 [.V a, .V c, .V d] [] (RB r) := by
 refine Aa Tryz.func124 I I I fun C hC => ?_
 unfold Bf at h
 refine Ak I (Am (fun s ob => s = [(6, .v (.bool (decide (a ≥ c) && decide (a ≤ d))))] ∧ ob = []) [] J ?_ ?_)
 refine Z2 (Af 4 I ?_)
 rcases bt (decide (a ≥ c)) with b | b
 refine Aj 10 I b (Af 5 I (Z3 ?_))
 exact lf I2 ⟨(Dl (by simp only [b, bz])), J⟩ [] I
 refine Aj 10 I b (Af 5 I (Z3 ?_))
 exact lf I2 ⟨(Dl (by simp only [b, bz])), J⟩ [] I
 rintro s ob ⟨rfl, rfl⟩
 obtain rfl := h
 exact Z8 pr
theorem Sx (a : List Bt) (d : Bt) (r : Int) (h : H5 a d = some r) : ACalls Ae 115 [Q2 a, .v (.string d)] [] (RV (.V r)) := by
 refine Aa Tryz.func115 I I I fun C hC => ?_
 unfold H5 at h
 refine Ak I (Am (fun s ob => ∃ (e : Unit), H5.J1 e = some r ∧ s = [] ∧ ob = []) [] J ?_ ?_)
 refine Bl [.l 1 (a.length : Int)] I ⟨Bc, J⟩ (Z6 (Co 6 I fun m => ?_))
 obtain ⟨A, n, f⟩ := Ac h
 refine Cd n [(0, _), (1, _), (7, _)] J3 (fun (b : Nat) (g : Unit) s ob => s = [(8, .V (b : Int))] ∧ ob = []) ⟨I, I⟩ ⟨I, J⟩ ⟨[], I, by decide⟩ ?_ ?_
 rintro b i g B s ob o j ⟨rfl, rfl⟩ h q
 have t := Do j
 refine Ak I (Ab fun D u => B0 I t (Z7 ?_))
 subst u
 refine Z5 (Z6 (Ak I (Z5 (Z2 (Ao 5 [.x 3 b (rS i)] I ⟨⟨I, Ag o⟩, J⟩ (Bi (Yp.cmpS (c := O6 d i) I I I) I (Z3 (Av h I ?_ ?_))))))))
 intro w h
 refine Ak I ?_
 obtain rfl := q _ (oi h).symm
 have h := f
 have h := Ef h
 cases io h
 exact Z8 pr
 intro w h
 refine Z7 (Z2 (Ao 2 [.k 0 (b + 1 : Nat)] I ⟨A5 j m, J⟩ ?_))
 cases io h
 exact Z3 ⟨_, _, _, I, I2, J4, [], I, by decide⟩
 rintro g s ob ⟨rfl, rfl⟩ he
 subst he
 have h := Eo f
 have y := Dp a.length
 exact Ak I (Ab fun E F => B7 I y (aB (lg ⟨(), h, I2⟩ [])))
 rintro s ob ⟨e, h, rfl, rfl⟩
 unfold H5.J1 at h
 refine Ak I ?_
 cases io h
 exact Z8 pr
theorem T0 (a : Li) (F1 : T) {c : FuncId} {d e : List T} (o : Ho F1 = some (c, d, e)) (f : Int → Option Bool) (p : ∀ (g : Int) r, f g = some r → ACalls Ae c (d ++ [.V g] ++ e) [] (RB r)) (r : Int) (h : Kc a f = some r) : ACalls Ae 134 [Q0 a, F1] [] (RV (.V r)) := by
 refine Aa Tryz.func134 I I I fun C hC => ?_
 unfold Kc at h
 refine Ak I (Am (fun s ob => ∃ (i : Unit), Kc.J1 i = some r ∧ s = [] ∧ ob = []) [] J ?_ ?_)
 refine Bl [.l 1 (a.length : Int)] I ⟨Bc, J⟩ (Z6 (Co 6 I fun q => ?_))
 obtain ⟨G, t, j⟩ := Ac h
 refine Cd t [(0, _), (1, _), (7, _)] J3 (fun (b : Nat) (m : Unit) s ob => s = [(8, .V (b : Int))] ∧ ob = []) ⟨I, I⟩ ⟨I, J⟩ ⟨[], I, by decide⟩ ?_ ?_
 rintro b u m H s ob w n ⟨rfl, rfl⟩ h y
 have A := Do n
 refine Ak I (Ab fun K B => B0 I A (Z7 ?_))
 subst B
 refine Z5 (Z6 (Ak I (Z5 ?_)))
 obtain ⟨M, D, h⟩ := Ac h
 refine Z2 (Ao 5 [.x 3 b (rI u)] I ⟨⟨I, Ag w⟩, J⟩ (Z4 [] I (Bo I (.refl _) o I (.rest _) I (p _ _ D) dS (by rintro _ _ ⟨rfl, _⟩; rfl) ?_)))
 rintro _ ⟨_, rfl, -⟩
 refine Z3 (Av h I ?_ ?_)
 intro E h
 refine Ak I ?_
 obtain rfl := y _ (oi h).symm
 have h := j
 have h := Ef h
 cases io h
 exact Z8 pr
 intro E h
 refine Z7 (Z2 (Ao 2 [.k 0 (b + 1 : Nat)] I ⟨A5 n q, J⟩ ?_))
 cases io h
 exact Z3 ⟨_, _, _, I, I2, J4, [], I, by decide⟩
 rintro m s ob ⟨rfl, rfl⟩ he
 subst he
 have h := Eo j
 have F := Dp a.length
 exact Ak I (Ab fun N O => B7 I F (aB (lg ⟨(), h, I2⟩ [])))
 rintro s ob ⟨i, h, rfl, rfl⟩
 unfold Kc.J1 at h
 refine Ak I ?_
 cases io h
 exact Z8 pr
theorem Sr (b : Li) (F1 : T) {d : FuncId} {e f : List T} (i : Ho F1 = some (d, e, f)) (a : Int → Option Bool) (j : ∀ (g : Int) r, a g = some r → ACalls Ae d (e ++ [.V g] ++ f) [] (RB r)) (r : Bool) (h : Jl b a = some r) : ACalls Ae 118 [Q0 b, F1] [] (RB r) := by
 refine Aa Tryz.func118 I I I fun C hC => ?_
 refine Ak I (Z5 ?_)
 obtain ⟨l, k, h⟩ := Ac h
 refine Z2 (Af 2 I (By (T0 _ F1 i a j _ k) (Af 2 I (Z3 ?_))))
 cases io h
 exact Z8 pr
theorem Sz (a : List Bt) (F1 : T) {c : FuncId} {d e : List T} (o : Ho F1 = some (c, d, e)) (f : Bt → Option Bool) (p : ∀ (g : Bt) r, f g = some r → ACalls Ae c (d ++ [.v (.string g)] ++ e) [] (RB r)) (r : Int) (h : Jq a f = some r) : ACalls Ae 114 [Q2 a, F1] [] (RV (.V r)) := by
 refine Aa Tryz.func114 I I I fun C hC => ?_
 unfold Jq at h
 refine Ak I (Am (fun s ob => ∃ (i : Unit), Jq.J1 i = some r ∧ s = [] ∧ ob = []) [] J ?_ ?_)
 refine Bl [.l 1 (a.length : Int)] I ⟨Bc, J⟩ (Z6 (Co 6 I fun q => ?_))
 obtain ⟨G, t, j⟩ := Ac h
 refine Cd t [(0, _), (1, _), (7, _)] J3 (fun (b : Nat) (m : Unit) s ob => s = [(8, .V (b : Int))] ∧ ob = []) ⟨I, I⟩ ⟨I, J⟩ ⟨[], I, by decide⟩ ?_ ?_
 rintro b u m H s ob w n ⟨rfl, rfl⟩ h y
 have A := Do n
 refine Ak I (Ab fun K B => B0 I A (Z7 ?_))
 subst B
 refine Z5 (Z6 (Ak I (Z5 ?_)))
 obtain ⟨M, D, h⟩ := Ac h
 refine Z2 (Ao 5 [.x 3 b (rS u)] I ⟨⟨I, Ag w⟩, J⟩ (Z4 [] I (Bo I (.refl _) o I (.rest _) I (p _ _ D) dS (by rintro _ _ ⟨rfl, _⟩; rfl) ?_)))
 rintro _ ⟨_, rfl, -⟩
 refine Z3 (Av h I ?_ ?_)
 intro E h
 refine Ak I ?_
 obtain rfl := y _ (oi h).symm
 have h := j
 have h := Ef h
 cases io h
 exact Z8 pr
 intro E h
 refine Z7 (Z2 (Ao 2 [.k 0 (b + 1 : Nat)] I ⟨A5 n q, J⟩ ?_))
 cases io h
 exact Z3 ⟨_, _, _, I, I2, J4, [], I, by decide⟩
 rintro m s ob ⟨rfl, rfl⟩ he
 subst he
 have h := Eo j
 have F := Dp a.length
 exact Ak I (Ab fun N O => B7 I F (aB (lg ⟨(), h, I2⟩ [])))
 rintro s ob ⟨i, h, rfl, rfl⟩
 unfold Jq.J1 at h
 refine Ak I ?_
 cases io h
 exact Z8 pr
theorem S9 (b : List Bt) (F1 : T) {d : FuncId} {e f : List T} (i : Ho F1 = some (d, e, f)) (a : Bt → Option Bool) (j : ∀ (g : Bt) r, a g = some r → ACalls Ae d (e ++ [.v (.string g)] ++ f) [] (RB r)) (r : Bool) (h : Ju b a = some r) : ACalls Ae 91 [Q2 b, F1] [] (RB r) := by
 refine Aa Tryz.func91 I I I fun C hC => ?_
 refine Ak I (Z5 ?_)
 obtain ⟨l, k, h⟩ := Ac h
 refine Z2 (Af 2 I (By (Sz _ F1 i a j _ k) (Af 2 I (Z3 ?_))))
 cases io h
 exact Z8 pr
theorem Ty (a : List Sg) (F1 : T) {c : FuncId} {d e : List T} (o : Ho F1 = some (c, d, e)) (f : Sg → Option Bool) (p : ∀ (g : Sg) r, f g = some r → ACalls Ae c (d ++ [.agg (Ai g)] ++ e) [] (RB r)) (r : Int) (h : Kb a f = some r) : ACalls Ae 133 [.list 7 (a.map Ai), F1] [] (RV (.V r)) := by
 refine Aa Tryz.func133 I I I fun C hC => ?_
 unfold Kb at h
 refine Ak I (Am (fun s ob => ∃ (i : Unit), Kb.J1 i = some r ∧ s = [] ∧ ob = []) [] J ?_ ?_)
 refine Bl [.l 1 (a.length : Int)] I ⟨Bc, J⟩ (Z6 (Co 6 I fun q => ?_))
 obtain ⟨G, t, j⟩ := Ac h
 refine Cd t [(0, _), (1, _), (7, _)] J3 (fun (b : Nat) (m : Unit) s ob => s = [(8, .V (b : Int))] ∧ ob = []) ⟨I, I⟩ ⟨I, J⟩ ⟨[], I, by decide⟩ ?_ ?_
 rintro b u m H s ob w n ⟨rfl, rfl⟩ h y
 have A := Do n
 refine Ak I (Ab fun K B => B0 I A (Z7 ?_))
 subst B
 refine Z5 (Z6 (Ak I (Z5 ?_)))
 obtain ⟨M, D, h⟩ := Ac h
 refine Z2 (Ao 5 [.x 3 b (Ai u)] I ⟨⟨I, Ag w⟩, J⟩ (Z4 [] I (Bo I (.refl _) o I (.rest _) I (p _ _ D) dS (by rintro _ _ ⟨rfl, _⟩; rfl) ?_)))
 rintro _ ⟨_, rfl, -⟩
 refine Z3 (Av h I ?_ ?_)
 intro E h
 refine Ak I ?_
 obtain rfl := y _ (oi h).symm
 have h := j
 have h := Ef h
 cases io h
 exact Z8 pr
 intro E h
 refine Z7 (Z2 (Ao 2 [.k 0 (b + 1 : Nat)] I ⟨A5 n q, J⟩ ?_))
 cases io h
 exact Z3 ⟨_, _, _, I, I2, J4, [], I, by decide⟩
 rintro m s ob ⟨rfl, rfl⟩ he
 subst he
 have h := Eo j
 have F := Dp a.length
 exact Ak I (Ab fun N O => B7 I F (aB (lg ⟨(), h, I2⟩ [])))
 rintro s ob ⟨i, h, rfl, rfl⟩
 unfold Kb.J1 at h
 refine Ak I ?_
 cases io h
 exact Z8 pr
theorem L1 (b : List Sg) (F1 : T) {d : FuncId} {e f : List T} (i : Ho F1 = some (d, e, f)) (a : Sg → Option Bool) (j : ∀ (g : Sg) r, a g = some r → ACalls Ae d (e ++ [.agg (Ai g)] ++ f) [] (RB r)) (r : Bool) (h : H3 b a = some r) : ACalls Ae 112 [.list 7 (b.map Ai), F1] [] (RB r) := by
 refine Aa Tryz.func112 I I I fun C hC => ?_
 refine Ak I (Z5 ?_)
 obtain ⟨l, k, h⟩ := Ac h
 refine Z2 (Af 2 I (By (Ty _ F1 i a j _ k) (Af 2 I (Z3 ?_))))
 cases io h
 exact Z8 pr
theorem S6 (a : List Port) (F1 : T) {c : FuncId} {d e : List T} (o : Ho F1 = some (c, d, e)) (f : Port → Option Bool) (p : ∀ (g : Port) r, f g = some r → ACalls Ae c (d ++ [.agg (Cu g)] ++ e) [] (RB r)) (r : Int) (h : Js a f = some r) : ACalls Ae 135 [.list 3 (a.map Cu), F1] [] (RV (.V r)) := by
 refine Aa Tryz.func135 I I I fun C hC => ?_
 unfold Js at h
 refine Ak I (Am (fun s ob => ∃ (i : Unit), Js.J1 i = some r ∧ s = [] ∧ ob = []) [] J ?_ ?_)
 refine Bl [.l 1 (a.length : Int)] I ⟨Bc, J⟩ (Z6 (Co 6 I fun q => ?_))
 obtain ⟨G, t, j⟩ := Ac h
 refine Cd t [(0, _), (1, _), (7, _)] J3 (fun (b : Nat) (m : Unit) s ob => s = [(8, .V (b : Int))] ∧ ob = []) ⟨I, I⟩ ⟨I, J⟩ ⟨[], I, by decide⟩ ?_ ?_
 rintro b u m H s ob w n ⟨rfl, rfl⟩ h y
 have A := Do n
 refine Ak I (Ab fun K B => B0 I A (Z7 ?_))
 subst B
 refine Z5 (Z6 (Ak I (Z5 ?_)))
 obtain ⟨M, D, h⟩ := Ac h
 refine Z2 (Ao 5 [.x 3 b (Cu u)] I ⟨⟨I, Ag w⟩, J⟩ (Z4 [] I (Bo I (.refl _) o I (.rest _) I (p _ _ D) dS (by rintro _ _ ⟨rfl, _⟩; rfl) ?_)))
 rintro _ ⟨_, rfl, -⟩
 refine Z3 (Av h I ?_ ?_)
 intro E h
 refine Ak I ?_
 obtain rfl := y _ (oi h).symm
 have h := j
 have h := Ef h
 cases io h
 exact Z8 pr
 intro E h
 refine Z7 (Z2 (Ao 2 [.k 0 (b + 1 : Nat)] I ⟨A5 n q, J⟩ ?_))
 cases io h
 exact Z3 ⟨_, _, _, I, I2, J4, [], I, by decide⟩
 rintro m s ob ⟨rfl, rfl⟩ he
 subst he
 have h := Eo j
 have F := Dp a.length
 exact Ak I (Ab fun N O => B7 I F (aB (lg ⟨(), h, I2⟩ [])))
 rintro s ob ⟨i, h, rfl, rfl⟩
 unfold Js.J1 at h
 refine Ak I ?_
 cases io h
 exact Z8 pr
theorem Tq (b : List Port) (F1 : T) {d : FuncId} {e f : List T} (i : Ho F1 = some (d, e, f)) (a : Port → Option Bool) (j : ∀ (g : Port) r, a g = some r → ACalls Ae d (e ++ [.agg (Cu g)] ++ f) [] (RB r)) (r : Bool) (h : J0 b a = some r) : ACalls Ae 122 [.list 3 (b.map Cu), F1] [] (RB r) := by
 refine Aa Tryz.func122 I I I fun C hC => ?_
 refine Ak I (Z5 ?_)
 obtain ⟨l, k, h⟩ := Ac h
 refine Z2 (Af 2 I (By (S6 _ F1 i a j _ k) (Af 2 I (Z3 ?_))))
 cases io h
 exact Z8 pr
theorem L0 (a : List Sn) (F1 : T) {c : FuncId} {d e : List T} (o : Ho F1 = some (c, d, e)) (f : Sn → Option Bool) (p : ∀ (g : Sn) r, f g = some r → ACalls Ae c (d ++ [.agg (A7 g)] ++ e) [] (RB r)) (r : Int) (h : Hx a f = some r) : ACalls Ae 116 [.list 5 (a.map A7), F1] [] (RV (.V r)) := by
 refine Aa Tryz.func116 I I I fun C hC => ?_
 unfold Hx at h
 refine Ak I (Am (fun s ob => ∃ (i : Unit), Hx.J1 i = some r ∧ s = [] ∧ ob = []) [] J ?_ ?_)
 refine Bl [.l 1 (a.length : Int)] I ⟨Bc, J⟩ (Z6 (Co 6 I fun q => ?_))
 obtain ⟨G, t, j⟩ := Ac h
 refine Cd t [(0, _), (1, _), (7, _)] J3 (fun (b : Nat) (m : Unit) s ob => s = [(8, .V (b : Int))] ∧ ob = []) ⟨I, I⟩ ⟨I, J⟩ ⟨[], I, by decide⟩ ?_ ?_
 rintro b u m H s ob w n ⟨rfl, rfl⟩ h y
 have A := Do n
 refine Ak I (Ab fun K B => B0 I A (Z7 ?_))
 subst B
 refine Z5 (Z6 (Ak I (Z5 ?_)))
 obtain ⟨M, D, h⟩ := Ac h
 refine Z2 (Ao 5 [.x 3 b (A7 u)] I ⟨⟨I, Ag w⟩, J⟩ (Z4 [] I (Bo I (.refl _) o I (.rest _) I (p _ _ D) dS (by rintro _ _ ⟨rfl, _⟩; rfl) ?_)))
 rintro _ ⟨_, rfl, -⟩
 refine Z3 (Av h I ?_ ?_)
 intro E h
 refine Ak I ?_
 obtain rfl := y _ (oi h).symm
 have h := j
 have h := Ef h
 cases io h
 exact Z8 pr
 intro E h
 refine Z7 (Z2 (Ao 2 [.k 0 (b + 1 : Nat)] I ⟨A5 n q, J⟩ ?_))
 cases io h
 exact Z3 ⟨_, _, _, I, I2, J4, [], I, by decide⟩
 rintro m s ob ⟨rfl, rfl⟩ he
 subst he
 have h := Eo j
 have F := Dp a.length
 exact Ak I (Ab fun N O => B7 I F (aB (lg ⟨(), h, I2⟩ [])))
 rintro s ob ⟨i, h, rfl, rfl⟩
 unfold Hx.J1 at h
 refine Ak I ?_
 cases io h
 exact Z8 pr
theorem Ss (b : List Sn) (F1 : T) {d : FuncId} {e f : List T} (i : Ho F1 = some (d, e, f)) (a : Sn → Option Bool) (j : ∀ (g : Sn) r, a g = some r → ACalls Ae d (e ++ [.agg (A7 g)] ++ f) [] (RB r)) (r : Bool) (h : Jn b a = some r) : ACalls Ae 125 [.list 5 (b.map A7), F1] [] (RB r) := by
 refine Aa Tryz.func125 I I I fun C hC => ?_
 refine Ak I (Z5 ?_)
 obtain ⟨l, k, h⟩ := Ac h
 refine Z2 (Af 2 I (By (L0 _ F1 i a j _ k) (Af 2 I (Z3 ?_))))
 cases io h
 exact Z8 pr
theorem Sc (a : Sg) (r : Bool) (h : Hw a = r) : ACalls Ae 113 [.agg (Ai a)] [] (RB r) := by
 refine Aa Tryz.func113 I I I fun C hC => ?_
 unfold Hw at h
 refine Ab fun d c => Z2 (Z4 [] I (Cg (Ai a) 7 fun e => Af 1 I (Z3 ?_)))
 subst c
 refine Am (fun s ob => s = [(2, .v (.bool (decide ((a.Points.length : Int) < 2) || decide ((a.Points.length : Int) > 8))))] ∧ ob = []) [] J ?_ ?_
 refine Z2 (Ao 5 [.o 1 0, .l 2 (a.Points.length : Int)] I ⟨Bc, I, J⟩ ?_)
 rcases bt (decide ((a.Points.length : Int) < 2)) with b | b
 refine Aj 7 I b (Af 6 I (Z3 ?_))
 exact lf I2 ⟨(Dl (by simp only [b, bz])), J⟩ [] I
 refine Aj 7 I b (Ao 6 [.o 1 0, .l 2 (a.Points.length : Int)] I ⟨Bc, I, J⟩ (Z3 ?_))
 exact lf I2 ⟨(Dl (by simp only [b, bz])), J⟩ [] I
 rintro s ob ⟨rfl, rfl⟩
 obtain rfl := h
 exact Z8 pr
theorem S7 (a : Nw) (r : Bool) (h : Mq a = some r) : ACalls Ae 89 [.agg (Ap a)] [] (RB r) := by
 refine Aa Tryz.func89 I I I fun C hC => ?_
 unfold Mq at h
 refine Ab fun k g => Z2 (Z4 [] I (Cg (Ap a) 6 fun n => Af 1 I (Z3 ?_)))
 subst g
 refine Z5 (Fx 30 (decide ((a.Nodes.length : Int) < 1) || (decide ((a.Nodes.length : Int) > 24) || (decide ((a.Segments.length : Int) > 32) || (decide ((a.Ports.length : Int) > 24) || decide ((a.Stations.length : Int) > 12))))) ?_ ?_)
 refine Z2 (Ao 5 [.o 1 0, .l 2 (a.Nodes.length : Int)] I ⟨Bc, I, J⟩ ?_)
 rcases bt (decide ((a.Nodes.length : Int) < 1)) with b | b
 exact Aj 7 I b (Af 23 I (Z3 (jf (by simp only [b, bz]) I I I2)))
 refine Aj 7 I b (Ao 6 [.o 1 0, .l 2 (a.Nodes.length : Int)] I ⟨Bc, I, J⟩ ?_)
 rcases bt (decide ((a.Nodes.length : Int) > 24)) with d | d
 exact Aj 13 I d (Af 17 I (Z3 (jf (by simp only [b, d, bz]) I I I2)))
 refine Aj 13 I d (Ao 6 [.o 1 0, .l 2 (a.Segments.length : Int)] I ⟨Bc, I, J⟩ ?_)
 rcases bt (decide ((a.Segments.length : Int) > 32)) with e | e
 exact Aj 19 I e (Af 11 I (Z3 (jf (by simp only [b, d, e, bz]) I I I2)))
 refine Aj 19 I e (Ao 6 [.o 1 0, .l 2 (a.Ports.length : Int)] I ⟨Bc, I, J⟩ ?_)
 rcases bt (decide ((a.Ports.length : Int) > 24)) with f | f
 exact Aj 25 I f (Af 5 I (Z3 (jf (by simp only [b, d, e, f, bz]) I I I2)))
 exact Aj 25 I f (Ao 5 [.o 1 0, .l 2 (a.Stations.length : Int)] I ⟨Bc, I, J⟩ (Z3 (jf (by simp only [b, d, e, f, bz]) I I I2)))
 refine Av h I ?_ ?_
 intro i h
 refine Ak I (aA g0 ?_)
 cases io h
 exact Z8 pr
 intro i h
 refine Z7 (Z5 ?_)
 obtain ⟨p, j, h⟩ := Ac h
 refine Z2 (Ao 2 [.o 1 0] I J1 (By (L1 _ (.v (.func (.func 113) #[] #[])) I (fun x => some (Hw x)) (fun x r h => by obtain I := oi h; exact Sc x _ I) _ j) (Af 2 I (Z3 (aA g0 ?_)))))
 cases io h
 exact Z8 pr
end Go.Proofs.YtkhcdkioehdndaaGreatDoor
