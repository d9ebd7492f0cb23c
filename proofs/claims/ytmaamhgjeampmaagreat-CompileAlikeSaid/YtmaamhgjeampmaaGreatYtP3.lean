/- Plain proofs. No condition. -/
import Derived.Test.YtmaamhgjeampmaaGreatYtP2
import Derived.Test.YtmaamhgjeampmaaGreatYtD
import Derived.KernelRfl
import Derived.Test.YtmaamhgjeampmaaGreatYtP1
import Derived.Test.YtmaamhgjeampmaaGreatYtB1
import Derived.ProofKit
import Derived.SizedLaws
import Derived.Carry
set_option maxRecDepth 100000
namespace Go.Proofs.YtmaamhgjeampmaaGreat
set_option linter.unusedVariables false
set_option linter.unusedSimpArgs false
open Go.Aw
theorem jO : Eu = some true := by kernel_rfl
theorem dR : Ok (Eu.bind fun r => some r) fun r => r = true := by rw [jO]; exact .pure rfl
theorem eG {n : Network} (Y : NetOk n) {p : Plan} (M : PlanOk n p) : Ok (Ns n p) fun q => PlanOk n q ∧ FedP n q := by
 have h1 := Y.segs1; have h2 := Y.ports1; have h3 := Y.sts1; have h4 := M.rl; have h5 := M.pl; have h6 := M.ml
 unfold Ns
 rw [Lc (by omega) (by omega) (by omega)]
 refine .bind' (.pure (.bind (Q := fun m : List Bool => m.length = n.Stations.length ∧ ∀ (i : Nat) (st : Station), n.Stations[i]? = some st → m[i]? = some true → E4 n p.Rates p.Ports st.Node) ?_ ?_))
 ·refine .loop (S := List Bool × Int) (fun st => ∃ k : Nat, st.2 = (k : Int) ∧ k ≤ n.Stations.length ∧ st.1.length = n.Stations.length ∧ ∀ (i : Nat) (s : Station), i < k → n.Stations[i]? = some s → st.1[i]? = some true → E4 n p.Rates p.Ports s.Node) (fun st => n.Stations.length - st.2.toNat)
   ⟨0, rfl, by omega, h6, fun i s h => absurd h (Nat.not_lt_zero _)⟩ (by dsimp only; omega) ?_
  rintro ⟨m, _⟩ ⟨k, rfl, hk, D, X⟩
  dsimp only at D X
  unfold Ns.B2
  refine A9 (fun hb => ?_) fun hb => .pure ⟨D, fun i s O hi => X i s ?_ O hi⟩
  ·have Z : k < n.Stations.length := by simp at hb; omega
   have O : n.Stations[k]? = some n.Stations[k] := gq Z
   have hx : m[k]? = some (m[k]'(by omega)) := gq _
   generalize m[k]'(by omega) = x at hx
   have j3 : ∀ z : Bool, (z = true → E4 n p.Rates p.Ports n.Stations[k].Node) → Ok (Ns.J3 (m, (k : Int)) (m.set k z)) (Sum.elim (fun st : List Bool × Int => (∃ k : Nat, st.2 = (k : Int) ∧ k ≤ n.Stations.length ∧ st.1.length = n.Stations.length ∧ ∀ (i : Nat) (s : Station), i < k → n.Stations[i]? = some s → st.1[i]? = some true → E4 n p.Rates p.Ports s.Node) ∧ n.Stations.length - st.2.toNat < n.Stations.length - ((k : Nat) : Int).toNat)
     fun m : List Bool => m.length = n.Stations.length ∧ ∀ (i : Nat) (st : Station), n.Stations[i]? = some st → m[i]? = some true → E4 n p.Rates p.Ports st.Node) := by
    intro z hz
    unfold Ns.J3
    refine .pure ⟨⟨k + 1, by dsimp only; rw [Bg (by omega)]; omega, by omega, by simp [D], fun i s hi G h => ?_⟩, by dsimp only; rw [Bg (by omega)]; omega⟩
    dsimp only at h
    by_cases W : k = i
    ·subst W
     rw [List.getElem?_set_self (by omega)] at h
     rw [O] at G; simp at G h; subst G
     exact hz h
    ·rw [List.getElem?_set_ne W] at h
     exact X i s (by omega) G h
   refine .bind' (.eq (Bd O) (.bind (Sa Y M.flow (Y.sts k _ O).node) fun r hr => .bind' (.eq (Bd hx) ?_)))
   refine A9 (fun _ => Cc (fun _ => j3 _ fun hz => hr.2.2.1 ?_) fun _ => j3 _ fun h => by cases h) fun _ => j3 _ fun h => by cases h
   simp at hz; omega
  ·have hil := (gs O).1
   simp at hb; omega
 ·rintro m ⟨D, X⟩
  unfold Ns.J1
  exact .pure ⟨⟨h4, h5, D, M.rng, M.prt, M.bal, M.dir⟩, X⟩
theorem dW {n : Network} (G : NetOk n) {s : Xq} (W : SrcOk s) : Ok (Fp s n) fun r => PlanOk n r.1 ∧ FedP n r.1 ∧ SrcOk r.2 := by
 unfold Fp
 refine .bind (iW G W) ?_
 rintro ⟨p, X⟩ ⟨O, D⟩
 exact .bind (eG G O) fun q M => .pure ⟨M.1, M.2, D⟩
def En (v : Valve) : Valve := ⟨v.Travel, v.Open, v.Want, false⟩
theorem iQ {s : Xq} (Y : SrcOk s) : Ok (Pw s) fun r => VOk (En r.1) ∧ SrcOk r.2 := by
 unfold Pw
 refine .bind (Eo Y (by simp) (by simp)) ?_
 rintro ⟨t, s1⟩ ⟨h1, Z⟩
 have D : 1 ≤ t ∧ t ≤ 60 := by simp at Z; omega
 refine .bind (Jc h1 (by omega) (by omega)) ?_
 rintro ⟨w, s2⟩ ⟨h2, _⟩
 refine .bind (Jc h2 (by omega) (by omega)) ?_
 rintro ⟨k, s3⟩ ⟨M, _⟩
 dsimp only
 rw [Bg (by omega)]
 refine .bind (Jc M (by omega) (by omega)) ?_
 rintro ⟨x, s4⟩ ⟨O, hx0, G⟩
 dsimp only at hx0 G
 refine .bind (Eo O (by simp) (by simp)) ?_
 rintro ⟨o, s5⟩ ⟨W, X⟩
 refine .pure ⟨⟨D, ?_, rfl⟩, W⟩
 show 0 ≤ o ∧ o ≤ t
 simp at X; omega
theorem lC {n : Network} (D : NetOk n) {s : Xq} (G : SrcOk s) {p : Plan} (hp : PlanOk n p) : Ok (Ip s n p) fun r => (PlanOk n r.1.Plan ∧ FedP n r.1.Plan ∧ r.1.Valves.length = n.Segments.length + n.Ports.length ∧ (∀ v, v ∈ r.1.Valves → VOk (En v)) ∧ Gi r.1.Valves (Cx r.1.Plan)) ∧ SrcOk r.2 := by
 have h1 := D.segs1; have h2 := D.ports1
 unfold Ip
 refine .bind (eG D hp) fun q X => ?_
 obtain ⟨X, hf⟩ := X
 have h4 := X.rl; have h5 := X.pl
 have hnl := H7 h4 h5
 rw [Uh (by omega) (by omega)]
 refine .bind' (.pure ?_)
 rw [X0 (by simp; omega) (by simp; omega)]
 refine .bind' (.pure (.bind (Q := fun d : List Int × Int × List Valve => SrcOk ⟨d.1, d.2.1⟩ ∧ d.2.2.length = (Cx q).length ∧ (∀ v, v ∈ d.2.2 → VOk (En v)) ∧ Gi d.2.2 (Cx q)) ?_ ?_))
 ·refine .loop (S := List Int × Int × List Valve × Int) (fun st => ∃ k : Nat, st.2.2.2 = (k : Int) ∧ k ≤ (Cx q).length ∧ SrcOk ⟨st.1, st.2.1⟩ ∧ st.2.2.1.length = k ∧ (∀ v, v ∈ st.2.2.1 → VOk (En v)) ∧ ∀ i : Nat, i < k → (Cx q)[i]? = some true → ∃ v, st.2.2.1[i]? = some v ∧ v.Open = v.Travel ∧ v.Want = true) (fun st => (Cx q).length - st.2.2.2.toNat)
   ⟨0, rfl, by omega, G, rfl, by simp, fun i h => absurd h (Nat.not_lt_zero _)⟩ (by dsimp only; omega) ?_
  rintro ⟨L_, At, vs, _⟩ ⟨k, rfl, hk, G, hl, hv, Y⟩
  dsimp only at G hl hv Y
  unfold Ip.B2
  refine Bb (fun aa => ?_) fun O => .pure ⟨G, ?_, hv, fun i hi => Y i ?_ hi⟩
  ·have hlt' : (k : Int) < ((Cx q).length : Int) := aa
   refine .bind (iQ G) ?_
   rintro ⟨v, s1⟩ ⟨M, hs1⟩
   have hx : (Cx q)[k]? = some ((Cx q)[k]'(by omega)) := gq _
   generalize (Cx q)[k]'(by omega) = x at hx
   have j3 : ∀ (o : Int) (w : Bool), 0 ≤ o → o ≤ v.Travel → (x = true → o = v.Travel ∧ w = true) → Ok (Ip.J3 (L_, At, vs, (k : Int)) (v, s1) (o, w)) (Sum.elim (fun st : List Int × Int × List Valve × Int => (∃ k : Nat, st.2.2.2 = (k : Int) ∧ k ≤ (Cx q).length ∧ SrcOk ⟨st.1, st.2.1⟩ ∧ st.2.2.1.length = k ∧ (∀ v, v ∈ st.2.2.1 → VOk (En v)) ∧ ∀ i : Nat, i < k → (Cx q)[i]? = some true → ∃ v, st.2.2.1[i]? = some v ∧ v.Open = v.Travel ∧ v.Want = true) ∧ (Cx q).length - st.2.2.2.toNat < (Cx q).length - ((k : Nat) : Int).toNat)
     fun d : List Int × Int × List Valve => SrcOk ⟨d.1, d.2.1⟩ ∧ d.2.2.length = (Cx q).length ∧ (∀ v, v ∈ d.2.2 → VOk (En v)) ∧ Gi d.2.2 (Cx q)) := by
    intro o w ho0 ho1 hxo
    unfold Ip.J3
    refine .bind' (.app (by simp; omega) (.pure ⟨⟨k + 1, by dsimp only; rw [Bg (by omega)]; omega, by omega, hs1, by simp [hl], fun y hy => ?_, fun i hi D => ?_⟩, by dsimp only; rw [Bg (by omega)]; omega⟩))
    ·rcases List.mem_append.1 hy with hy | hy
     ·exact hv y hy
     ·have : y = ⟨v.Travel, o, w, v.Stuck⟩ := by simpa using hy
      subst this
      exact ⟨M.travel, ⟨ho0, ho1⟩, rfl⟩
    ·dsimp only
     by_cases Z : i = k
     ·subst Z
      rw [hx] at D; simp at D
      obtain ⟨e1, e2⟩ := hxo D
      exact ⟨⟨v.Travel, o, w, v.Stuck⟩, by rw [List.getElem?_append_right (by omega), hl]; simp, e1, e2⟩
     ·obtain ⟨y, a, b⟩ := Y i (by omega) D
      exact ⟨y, by rw [List.getElem?_append_left (by omega)]; exact a, b⟩
   have ho := M.opn
   have htv := M.travel
   dsimp only [En] at ho htv
   refine .bind' (.eq (Bd hx) (A9 (fun _ => j3 _ _ (by dsimp only; omega) (by dsimp only; omega) fun _ => ⟨rfl, rfl⟩) fun hb => j3 _ _ ho.1 ho.2 fun h => ?_))
   dsimp only at hb; rw [h] at hb; cases hb
  ·have W : ¬ (k : Int) < ((Cx q).length : Int) := O
   dsimp only; omega
  ·have W : ¬ (k : Int) < ((Cx q).length : Int) := O
   have := (gs hi).1; omega
 ·rintro ⟨L_, At, vs⟩ ⟨G, hl, hv, Y⟩
  exact .pure ⟨⟨X, hf, by dsimp only at hl ⊢; omega, hv, Y⟩, G⟩
theorem lB {n : Network} (Y : NetOk n) {d : Desk} (h : PlanOk n d.Plan ∧ FedP n d.Plan ∧ d.Valves.length = n.Segments.length + n.Ports.length ∧ (∀ v, v ∈ d.Valves → VOk (En v)) ∧ Gi d.Valves (Cx d.Plan)) : Ok (Iq d) fun e => DeskOk n e := by
 obtain ⟨O, hf, hl, hv, hr⟩ := h
 have h1 := Y.segs1; have h2 := Y.ports1; have h3 := Y.sts1; have h4 := O.rl; have h5 := O.pl; have h6 := O.ml
 unfold Iq Hq
 rw [Ex (by simp; omega), Lc (by omega) (by omega) (by omega)]
 refine .bind' (.bind' (.pure (.bind' (.pure (.pure ?_)))))
 refine .bind (Q := fun vs => vs = d.Valves.map En) ?_ ?_
 ·refine .loop (S := List Valve × Int) (fun st => ∃ k : Nat, st = ((d.Valves.take k).map En ++ d.Valves.drop k, (k : Int)) ∧ k ≤ d.Valves.length) (fun st => d.Valves.length - st.2.toNat) ⟨0, rfl, by omega⟩ (by dsimp only; omega) ?_
  rintro _ ⟨k, rfl, M⟩
  have hlen : ((d.Valves.take k).map En ++ d.Valves.drop k).length = d.Valves.length := by simp; omega
  unfold Iq.B2
  refine Bb (fun G => ?_) fun D => .pure ?_
  ·dsimp only at G
   rw [hlen] at G
   have hx : d.Valves[k]? = some (d.Valves[k]'(by omega)) := gq _
   generalize d.Valves[k]'(by omega) = v at hx
   have hg : ((d.Valves.take k).map En ++ d.Valves.drop k)[k]? = some v := by
    rw [List.getElem?_append_right (by simp; omega)]; simp [Nat.min_eq_left M, hx]
   refine .bind' (.eq (Bd hg) (.pure ⟨⟨k + 1, ?_, by omega⟩, ?_⟩))
   ·dsimp only
    rw [Bg (by omega)]
    congr 1
    refine List.ext_getElem? fun j => ?_
    rw [Ds]
    split
    ·rename_i W
     rw [← W.1, List.getElem?_append_left (by simp; omega), List.getElem?_map, List.getElem?_take, if_pos (by omega), hx]; rfl
    ·rename_i W
     rw [hlen] at W
     by_cases X : j < k
     ·rw [List.getElem?_append_left (by simp; omega), List.getElem?_append_left (by simp; omega), List.getElem?_map, List.getElem?_map, List.getElem?_take, List.getElem?_take, if_pos X, if_pos (by omega)]
     ·have : k < j := by omega
      rw [List.getElem?_append_right (by simp; omega), List.getElem?_append_right (by simp; omega)]
      simp only [List.length_map, List.length_take, List.getElem?_drop, Nat.min_eq_left M, Nat.min_eq_left (show k + 1 ≤ d.Valves.length by omega)]
      congr 1; omega
   ·dsimp only; rw [Bg (by omega)]; omega
  ·dsimp only at D
   rw [hlen] at D
   show (d.Valves.take k).map En ++ d.Valves.drop k = _
   rw [List.take_of_length_le (by omega), List.drop_eq_nil_of_le (by omega), List.append_nil]
 ·rintro _ rfl
  refine .pure ⟨⟨by dsimp only; rw [List.length_map]; exact hl, fun v Z => ?_⟩, O, fun k M => ?_, hf⟩
  ·obtain ⟨u, hu, rfl⟩ := List.mem_map.1 Z
   exact hv u hu
  ·obtain ⟨v, a, b, c⟩ := hr k M
   exact ⟨En v, by dsimp only; rw [List.getElem?_map, a]; rfl, b, c⟩
def Wn.J1 (G : List Step) (D : (List Valve) × (List Int) × (List Int) × (List Bool)) : Option (Desk × Int × Int) := some ((⟨D.1, (⟨D.2.1, D.2.2.1, D.2.2.2⟩ : Plan)⟩ : Desk), (G.length : Int), 0)
def Wn.J3 (D : (List Valve) × (List Int) × (List Int) × (List Bool) × Int) (G : (List Valve) × (List Int) × (List Int) × (List Bool) × Int) : Option (((List Valve) × (List Int) × (List Int) × (List Bool) × Int) ⊕ ((Desk × Int × Int) ⊕ ((List Valve) × (List Int) × (List Int) × (List Bool)))) := if (G.2.2.2.2 != 0) = true then some ((.inr (.inl (((⟨D.1, (⟨D.2.1, D.2.2.1, D.2.2.2.1⟩ : Plan)⟩ : Desk), D.2.2.2.2, G.2.2.2.2))))) else some (.inl (G.1, G.2.1, G.2.2.1, G.2.2.2.1, wr (D.2.2.2.2 + 1)))
def Wn.B2 (O : Network) (M : List Step) (D : (List Valve) × (List Int) × (List Int) × (List Bool) × Int) : Option (((List Valve) × (List Int) × (List Int) × (List Bool) × Int) ⊕ ((Desk × Int × Int) ⊕ ((List Valve) × (List Int) × (List Int) × (List Bool)))) := if decide (D.2.2.2.2 < (M.length : Int)) = true then Option.bind (ix M D.2.2.2.2) fun W => Option.bind (Es O (⟨D.1, (⟨D.2.1, D.2.2.1, D.2.2.2.1⟩ : Plan)⟩ : Desk) W.2) fun G => Wn.J3 D (G.1.Valves, G.1.Plan.Rates, G.1.Plan.Ports, G.1.Plan.Pumps, G.2) else some ((.inr (.inr ((D.1, D.2.1, D.2.2.1, D.2.2.2.1)))))
def Wn (W : Network) (D : Desk) (G : List Step) : Option (Desk × Int × Int) := if decide ((G.length : Int) > 400) = true then some (D, 0, 4) else Option.bind (Ch (Wn.B2 W G) Dm (D.Valves, D.Plan.Rates, D.Plan.Ports, D.Plan.Pumps, 0)) fun X => Sum.elim (fun M => some M) (fun O => Wn.J1 G O) X
def mS.J4 (G : Unit) : Option Bool := Option.bind (Eu) fun D => some D
def mS.J6 (D : Int) (G : Bool) : Option (Int ⊕ (Bool ⊕ Unit)) := if G = true then some ((.inr (.inl (false)))) else some (.inl (wr (D + 1)))
def mS.B5 (M : Desk × Int × Int) (D : Int) : Option (Int ⊕ (Bool ⊕ Unit)) := if decide (D < (M.1.Valves.length : Int)) = true then Option.bind (ix M.1.Valves D) fun G => if (G.2.Open != 0) = true then mS.J6 D true else mS.J6 D G.2.Want else some ((.inr (.inr (()))))
def mS.J3 (O : Desk × Int × Int) (W : Unit) : Option Bool := Option.bind (Ch (mS.B5 O) Dm 0) fun M => Sum.elim (fun D => some D) (fun G => mS.J4 G) M
def mS.B7 (M : Desk × Int × Int) (D : Int) : Option (Int ⊕ (Bool ⊕ Unit)) := if decide (D < (M.1.Plan.Pumps.length : Int)) = true then Option.bind (ix M.1.Plan.Pumps D) fun G => if G.2 = true then some ((.inr (.inl (false)))) else some (.inl (wr (D + 1))) else some ((.inr (.inr (()))))
def mS.J2 (O : Desk × Int × Int) (W : Unit) : Option Bool := Option.bind (Ch (mS.B7 O) Dm 0) fun M => Sum.elim (fun D => some D) (fun G => mS.J3 O G) M
def mS.B8 (M : Desk × Int × Int) (D : Int) : Option (Int ⊕ (Bool ⊕ Unit)) := if decide (D < (M.1.Plan.Ports.length : Int)) = true then Option.bind (ix M.1.Plan.Ports D) fun G => if (G.2 != 0) = true then some ((.inr (.inl (false)))) else some (.inl (wr (D + 1))) else some ((.inr (.inr (()))))
def mS.J1 (O : Int) (Z : Network × KS) (D : (List Valve) × (List Int) × (List Int) × (List Bool)) : Option Bool := Option.bind (lL Z.1 (⟨D.1, (⟨D.2.1, D.2.2.1, D.2.2.2⟩ : Plan)⟩ : Desk) (wr (20 + (wr (O)))) 0) fun G => if (G.2 == 4) = true then Option.bind (Eu) fun aa => some aa else Option.bind (Wn Z.1 (⟨D.1, (⟨D.2.1, D.2.2.1, D.2.2.2⟩ : Plan)⟩ : Desk) G.1) fun M => if ((G.2 != 0) || ((M.2.2 != 0) || (M.2.1 != (G.1.length : Int)))) = true then some false else Option.bind (Ch (mS.B8 M) Dm 0) fun Y => Sum.elim (fun W => some W) (fun X => mS.J2 M X) Y
def mS (W : List Int) (M : Int) : Option Bool := if (!(K2 W)) = true then Option.bind (Eu) fun r4 => some r4 else Option.bind (Ir W) fun Y => Option.bind (It Y) fun G => Option.bind (Fp G.2 G.1) fun O => Option.bind (Ip O.2 G.1 O.1) fun X => Option.bind (Iq X.1) fun D => mS.J1 M G (D.Valves, D.Plan.Rates, D.Plan.Ports, D.Plan.Pumps)
def eL.J1 (D : Unit) : Option Bool := some true
def eL.B2 (G : List Int) (M : List Int) (D : Int) : Option (Int ⊕ (Bool ⊕ Unit)) := if decide (D < (G.length : Int)) = true then Option.bind (ix G D) fun O => Option.bind (ix M D) fun W => if (O.2 != W.2) = true then some ((.inr (.inl (false)))) else some (.inl (wr (D + 1))) else some ((.inr (.inr (()))))
def eL (D : List Int) (G : List Int) : Option Bool := if ((D.length : Int) != (G.length : Int)) = true then some false else Option.bind (Ch (eL.B2 D G) Dm 0) fun W => Sum.elim (fun M => some M) (fun O => eL.J1 O) W
def lK.J1 (D : Unit) : Option Bool := some true
def lK.B2 (G : List Bool) (M : List Bool) (D : Int) : Option (Int ⊕ (Bool ⊕ Unit)) := if decide (D < (G.length : Int)) = true then Option.bind (ix G D) fun O => Option.bind (ix M D) fun W => if (O.2 != W.2) = true then some ((.inr (.inl (false)))) else some (.inl (wr (D + 1))) else some ((.inr (.inr (()))))
def lK (D : List Bool) (G : List Bool) : Option Bool := if ((D.length : Int) != (G.length : Int)) = true then some false else Option.bind (Ch (lK.B2 D G) Dm 0) fun W => Sum.elim (fun M => some M) (fun O => lK.J1 O) W
def Wm.J1 (D : Bool) : Option Bool := some D
def Wm (D : Plan) (G : Plan) : Option Bool := Option.bind (eL D.Rates G.Rates) fun M => if M = true then Option.bind (eL D.Ports G.Ports) fun O => if O = true then Option.bind (lK D.Pumps G.Pumps) fun W => Wm.J1 W else Wm.J1 false else Wm.J1 false
def mT.J2 (D : Bool) : Option Bool := some D
def mT.J1 (G : Network × KS) (D : (List Int) × Int × (List Valve) × (List Int) × (List Int) × (List Bool)) : Option Bool := Option.bind (Fp (⟨D.1, D.2.1⟩ : KS) G.1) fun O => Option.bind (Fe G.1 (⟨D.2.2.1, (⟨D.2.2.2.1, D.2.2.2.2.1, D.2.2.2.2.2⟩ : Plan)⟩ : Desk) O.1 300 0) fun W => Option.bind (Wn G.1 (⟨D.2.2.1, (⟨D.2.2.2.1, D.2.2.2.2.1, D.2.2.2.2.2⟩ : Plan)⟩ : Desk) W.1) fun M => Option.bind (Fe G.1 M.1 O.1 300 0) fun X => Option.bind (Fe G.1 M.1 (⟨D.2.2.2.1, D.2.2.2.2.1, D.2.2.2.2.2⟩ : Plan) 300 0) fun Y => Option.bind (Wn G.1 M.1 Y.1) fun Z => if (W.2 == 0) = true then if (M.2.2 == 0) = true then if (X.2 == 0) = true then if (Y.2 == 0) = true then if (Z.2.2 == 0) = true then if ((X.1.length : Int) == 0) = true then Option.bind (Wm M.1.Plan O.1) fun aa => if aa = true then Option.bind (Wm Z.1.Plan (⟨D.2.2.2.1, D.2.2.2.2.1, D.2.2.2.2.2⟩ : Plan)) fun ab => if ab = true then Option.bind (Eu) fun ac => mT.J2 ac else mT.J2 false else mT.J2 false else mT.J2 false else mT.J2 false else mT.J2 false else mT.J2 false else mT.J2 false else mT.J2 false
def mT (O : List Int) : Option Bool := if (!(K2 O)) = true then Option.bind (Eu) fun r4 => some r4 else Option.bind (Ir O) fun X => Option.bind (It X) fun D => Option.bind (Fp D.2 D.1) fun W => Option.bind (Ip W.2 D.1 W.1) fun M => Option.bind (Iq M.1) fun G => mT.J1 D (M.2.L_, M.2.At, G.Valves, G.Plan.Rates, G.Plan.Ports, G.Plan.Pumps)
def mR.J4 (D : Bool) : Option Bool := some D
def mR.J3 (O : Plan × KS) (D : (List Valve) × (List Int) × (List Int) × (List Bool)) : Option Bool := Option.bind (Wm (⟨D.2.1, D.2.2.1, D.2.2.2⟩ : Plan) O.1) fun G => if G = true then Option.bind (Eu) fun M => mR.J4 M else mR.J4 false
def mR.J6 (G : (List Valve) × (List Int) × (List Int) × (List Bool) × Int) (D : (List Valve) × (List Int) × (List Int) × (List Bool)) : Option (((List Valve) × (List Int) × (List Int) × (List Bool) × Int) ⊕ (Bool ⊕ ((List Valve) × (List Int) × (List Int) × (List Bool)))) := some (.inl (D.1, D.2.1, D.2.2.1, D.2.2.2, wr (G.2.2.2.2 + 1)))
def mR.B8 (X : (List Int) × Int × (List Valve) × (List Int) × (List Int) × (List Bool)) (Y : Plan × KS) (G : (List Valve) × (List Int) × (List Int) × (List Bool) × Int) (D : Int) : Option (Int ⊕ (Bool ⊕ ((List Valve) × (List Int) × (List Int) × (List Bool)))) := if decide (D < (G.2.1.length : Int)) = true then Option.bind (ix G.2.1 D) fun M => Option.bind (ix X.2.2.2.1 D) fun O => Option.bind (ix Y.1.Rates D) fun W => if (decide (M.2 > (max (max 0 O.2) W.2)) || decide (M.2 < (min (min 0 O.2) W.2))) = true then some ((.inr (.inl (false)))) else some (.inl (wr (D + 1))) else some ((.inr (.inr ((G.1, G.2.1, G.2.2.1, G.2.2.2.1)))))
def mR.J7 (X : (List Int) × Int × (List Valve) × (List Int) × (List Int) × (List Bool)) (Y : Plan × KS) (G : (List Valve) × (List Int) × (List Int) × (List Bool) × Int) (D : (List Valve) × (List Int) × (List Int) × (List Bool) × Int) : Option (((List Valve) × (List Int) × (List Int) × (List Bool) × Int) ⊕ (Bool ⊕ ((List Valve) × (List Int) × (List Int) × (List Bool)))) := if (D.2.2.2.2 != 0) = true then some ((.inr (.inl (false)))) else Option.bind (Ch (mR.B8 X Y D) Dm 0) fun W => Sum.elim (fun M => some ((.inr (.inl (M))))) (fun O => mR.J6 G O) W
def mR.B5 (X : Network × KS) (W : (List Int) × Int × (List Valve) × (List Int) × (List Int) × (List Bool)) (Y : Plan × KS) (O : (List Step) × Int) (D : (List Valve) × (List Int) × (List Int) × (List Bool) × Int) : Option (((List Valve) × (List Int) × (List Int) × (List Bool) × Int) ⊕ (Bool ⊕ ((List Valve) × (List Int) × (List Int) × (List Bool)))) := if decide (D.2.2.2.2 < (O.1.length : Int)) = true then Option.bind (ix O.1 D.2.2.2.2) fun M => Option.bind (Es X.1 (⟨D.1, (⟨D.2.1, D.2.2.1, D.2.2.2.1⟩ : Plan)⟩ : Desk) M.2) fun G => mR.J7 W Y D (G.1.Valves, G.1.Plan.Rates, G.1.Plan.Ports, G.1.Plan.Pumps, G.2) else some ((.inr (.inr ((D.1, D.2.1, D.2.2.1, D.2.2.2.1)))))
def mR.J2 (Y : Network × KS) (D : (List Int) × Int × (List Valve) × (List Int) × (List Int) × (List Bool)) (W : Plan × KS) (Z : (List Step) × Int) (X : Bool) : Option Bool := if X = true then some false else Option.bind (Ch (mR.B5 Y D W Z) Dm (D.2.2.1, D.2.2.2.1, D.2.2.2.2.1, D.2.2.2.2.2, 0)) fun O => Sum.elim (fun G => some G) (fun M => mR.J3 W M) O
def mR.J1 (G : Int) (W : Int) (O : Network × KS) (D : (List Int) × Int × (List Valve) × (List Int) × (List Int) × (List Bool)) : Option Bool := Option.bind (Fp (⟨D.1, D.2.1⟩ : KS) O.1) fun X => Option.bind (Fe O.1 (⟨D.2.2.1, (⟨D.2.2.2.1, D.2.2.2.2.1, D.2.2.2.2.2⟩ : Plan)⟩ : Desk) X.1 (wr (1 + (wr (G)))) ((wr (W)).tmod 3)) fun M => if (M.2 == 4) = true then Option.bind (Eu) fun Z => some Z else if (M.2 != 0) = true then mR.J2 O D X M true else Option.bind (Ji M.1) fun Y => mR.J2 O D X M (decide (Y > (wr (1 + (wr (G))))))
def mR (Y : List Int) (O : Int) (W : Int) : Option Bool := if (!(K2 Y)) = true then Option.bind (Eu) fun r4 => some r4 else Option.bind (Ir Y) fun Z => Option.bind (It Z) fun M => Option.bind (Fp M.2 M.1) fun X => Option.bind (Ip X.2 M.1 X.1) fun G => Option.bind (Iq G.1) fun D => mR.J1 O W M (G.2.L_, G.2.At, D.Valves, D.Plan.Rates, D.Plan.Ports, D.Plan.Pumps)
theorem Sm {u : Path} {sign ramp : Int} (D : 0 < ramp) : ∀ (k : Nat) (b : Int), b ≤ ramp * (k : Int) → (E3 u sign ramp 0 b).length ≤ k
 | 0, b, h => by rw [E0 (by simpa using h)]; simp
 | k + 1, b, h => by
  by_cases hb : 0 < b
  ·rw [Ki hb D]
   have := Sm (u := u) (sign := sign) D k (b - ramp) (by rw [Int.natCast_add, Int.mul_add] at h; omega)
   rw [show E7 0 = [] from rfl, List.nil_append, List.length_cons]; omega
  ·rw [E0 (by omega)]; simp
theorem I4 {n : Network} {p : Plan} {sign : Int} {other : List Path} (D : ∀ y, y ∈ other → 1 ≤ y.Rate) : ∀ {l : List Path}, (∀ x, x ∈ l → PathOk n p x) → (Cu sign 300 0 l other).length ≤ 4 * l.length
 | [], _ => by simp [Cu]
 | u :: l, h => by
  have G := (h u (by simp)).small
  have M := Ik (l := other) (u := u) D G.2.1
  have a := Sm (u := u) (sign := sign) (ramp := 300) (by omega) 4 (u.Rate - mr other u) (by omega)
  have b := I4 (sign := sign) D (l := l) fun x hx => h x (by simp [hx])
  unfold Cu at b ⊢
  rw [List.flatMap_cons, List.length_append, List.length_cons]; omega
theorem Yb {n : Network} (G : NetOk n) {d : Desk} (M : DeskOk n d) {to : Plan} (W : PlanOk n to) {a b : List Path} {sp cs os : List Nat} {most : Int} {ss : List Nat} (hc : Comp n d to 300 0 a b sp cs os most ss) : (Gz 300 0 a b sp cs os most ss).length ≤ 400 := by
 obtain ⟨X, D⟩ := hc.pa
 obtain ⟨Y, hb⟩ := hc.pb
 have h1 := G.segs1; have h2 := G.ports1; have h3 := G.sts1
 have e1 := hc.hsp.len; have e2 := hc.hss.len; have O := hc.tn.len
 rw [List.length_map, M.vs.1] at O
 have e4 := M.plan.ml; have e5 := W.ml
 have f1 := I4 (sign := -1) (fun y hy => (hb.paths y hy).small.2.1) D.paths
 have f2 := I4 (sign := 1) (fun y hy => (D.paths y hy).small.2.1) hb.paths
 have Z := D.count; have c2 := hb.count
 have w := H3 most
 unfold Gz
 simp only [List.length_append, List.length_map]
 omega
theorem Yf {l : List Path} (h : G0 l) {u : Path} (G : u ∈ l) : mr l u = u.Rate := by
 obtain ⟨k, D⟩ := List.getElem?_of_mem G
 rw [Xy h D ⟨rfl, rfl, rfl⟩]; omega
theorem fI {l : List Path} (h : G0 l) : l.map (mr l) = l.map (·.Rate) := List.map_congr_left fun u D => Yf h D
theorem Hu {sign ramp rest : Int} {l : List Path} (h : G0 l) : Cu sign ramp rest l l = [] := by
 unfold Cu
 rw [List.flatMap_eq_nil_iff]
 intro u D
 exact E0 (by rw [Yf h D]; omega)
theorem Zb {n : Network} (Y : NetOk n) {d : Desk} (O : DeskOk n d) {ramp rest : Int} {a b : List Path} {sp cs os : List Nat} {most : Int} {ss : List Nat} (hc : Comp n d d.Plan ramp rest a b sp cs os most ss) :
  a = b ∧ sp = [] ∧ ss = [] ∧ Gz ramp rest a b sp cs os most ss = (cs.map Fd ++ os.map Hk) ++ E7 most ∧ Turns d.Valves (Cx d.Plan) cs os most := by
 obtain ⟨X, G⟩ := hc.pa
 have M : a = b := by have := hc.da; rw [hc.db] at this; simp at this; exact this.symm
 subst M
 have hsp : sp = [] := by
  cases sp with
  | nil => rfl
  | cons i sp =>
   obtain ⟨_, h1, h2⟩ := hc.hsp.idx i (by simp)
   refine absurd ⟨h1, fun st W => ?_⟩ h2
   have := O.fed i st W h1
   rw [fI G.apt]
   show E4 n (C5 n a _) (Cy n a _) _
   have e := Jw O.plan G
   unfold Cs at e
   rw [← e] at this
   exact this
 subst hsp
 have hss : ss = [] := by
  cases ss with
  | nil => rfl
  | cons i ss =>
   obtain ⟨_, h1, h2⟩ := hc.hss.idx i (by simp)
   rw [show Co false [] d.Plan.Pumps = d.Plan.Pumps from rfl, h2] at h1
   cases h1
 subst hss
 have D := hc.tn
 rw [Hu G.apt] at D
 refine ⟨rfl, rfl, rfl, ?_, ?_⟩
 ·unfold Gz
  rw [Hu G.apt, Hu G.apt]; simp
 ·rw [show Jb (([] : List Nat).map E8 ++ []) = 0 from rfl, H6 O.vs] at D
  exact D
theorem Wz {n : Network} (G : NetOk n) {d : Desk} (D : DeskOk n d) {to : Plan} (M : PlanOk n to) (hf : FedP n to) : Ok (Fe n d to 300 0) fun r => ∃ a b sp cs os most ss, Comp n d to 300 0 a b sp cs os most ss ∧ r = (Gz 300 0 a b sp cs os most ss, 0) := by
 refine (Rh G D M hf (by omega) (by omega)).mono ?_
 rintro _ ⟨a, b, sp, cs, os, most, ss, hc, rfl⟩
 have := Yb G D M hc
 exact ⟨a, b, sp, cs, os, most, ss, hc, if_neg (by omega)⟩
def FirstP (n : Network) (ports : List Int) (at_ : Int) (k : Nat) (y : Int) : Prop := (∃ p, n.Ports[k]? = some p ∧ p.Node = at_) ∧ ports[k]? = some y ∧ y < 0 ∧ ∀ (i : Nat) (p : Port) (x : Int), i < k → n.Ports[i]? = some p → p.Node = at_ → ports[i]? = some x → 0 ≤ x
def NoP (n : Network) (ports : List Int) (at_ : Int) (k : Nat) : Prop := ∀ (i : Nat) (p : Port) (x : Int), i < k → n.Ports[i]? = some p → p.Node = at_ → ports[i]? = some x → 0 ≤ x
def Lv (s : Segment) (r at_ : Int) : Prop := 0 < r ∧ s.From = at_ ∨ r < 0 ∧ s.To = at_
def NoS (n : Network) (rates : List Int) (at_ : Int) (k : Nat) : Prop := ∀ (i : Nat) (s : Segment) (r : Int), i < k → n.Segments[i]? = some s → rates[i]? = some r → ¬ Lv s r at_
def FirstS (n : Network) (rates : List Int) (at_ : Int) (k : Nat) (s : Segment) (r : Int) : Prop := n.Segments[k]? = some s ∧ rates[k]? = some r ∧ Lv s r at_ ∧ NoS n rates at_ k
theorem NoP.succ {n : Network} {ports : List Int} {at_ : Int} {k : Nat} (h : NoP n ports at_ k) {p : Port} {x : Int} (W : n.Ports[k]? = some p) (hx : ports[k]? = some x) (O : p.Node = at_ → 0 ≤ x) : NoP n ports at_ (k + 1) := fun i q y hi G D hy => by
 by_cases M : i = k
 ·subst M; rw [W] at G; rw [hx] at hy; simp at G hy; subst G; subst hy; exact O D
 ·exact h i q y (by omega) G D hy
theorem NoS.succ {n : Network} {rates : List Int} {at_ : Int} {k : Nat} (h : NoS n rates at_ k) {s : Segment} {x : Int} (O : n.Segments[k]? = some s) (hx : rates[k]? = some x) (M : ¬ Lv s x at_) : NoS n rates at_ (k + 1) := fun i q y hi D hy => by
 by_cases G : i = k
 ·subst G; rw [O] at D; rw [hx] at hy; simp at D hy; subst D; subst hy; exact M
 ·exact h i q y (by omega) D hy
theorem FirstP.one {n : Network} {ports : List Int} {at_ : Int} {k D : Nat} {y M : Int} (h : FirstP n ports at_ k y) (h' : FirstP n ports at_ D M) : k = D ∧ y = M := by
 obtain ⟨⟨p, W, X⟩, O, a4, Y⟩ := h
 obtain ⟨⟨q, Z, b2⟩, G, b4, b5⟩ := h'
 have : k = D := by
  rcases Nat.lt_trichotomy k D with h | h | h
  ·have := b5 k p y h W X O; omega
  ·exact h
  ·have := Y D q M h Z b2 G; omega
 subst this
 rw [O] at G; simp at G; exact ⟨rfl, G⟩
theorem FirstP.no {n : Network} {ports : List Int} {at_ : Int} {k : Nat} {y : Int} (h : FirstP n ports at_ k y) (O : NoP n ports at_ n.Ports.length) : False := by
 obtain ⟨⟨p, D, G⟩, M, W, X⟩ := h
 have := O k p y (gs D).1 D G M; omega
theorem FirstS.one {n : Network} {rates : List Int} {at_ : Int} {k D : Nat} {s W : Segment} {r O : Int} (h : FirstS n rates at_ k s r) (h' : FirstS n rates at_ D W O) : k = D ∧ s = W ∧ r = O := by
 obtain ⟨X, Y, Z, a4⟩ := h
 obtain ⟨G, M, b3, b4⟩ := h'
 have : k = D := by
  rcases Nat.lt_trichotomy k D with h | h | h
  ·exact absurd Z (b4 k s r h X Y)
  ·exact h
  ·exact absurd b3 (a4 D W O h G M)
 subst this
 rw [X] at G; rw [Y] at M; simp at G M; exact ⟨rfl, G, M⟩
def Gm (s : Segment) (r : Int) : Int := if r < 0 then s.From else s.To
theorem mC {n : Network} {rates ports : List Int} (hn : NetOk n) {up : Bool} (h : Res n up rates ports) {hops : List Hop} {rate at_ : Int} (hl : hops.length ≤ 100) :
  Ok (Jo.B4 ⟨n, rates, ports⟩ (hops, rate, at_)) fun o => (∃ k y, FirstP n ports at_ k y ∧ o = .inr ((k : Int), hops, min rate (-y))) ∨ (NoP n ports at_ n.Ports.length ∧ ∃ k s r, FirstS n rates at_ k s r ∧ o = .inl (hops ++ [⟨(k : Int), decide (r < 0)⟩], min rate (max r (-r)), Gm s r)) ∨ (NoP n ports at_ n.Ports.length ∧ NoS n rates at_ n.Segments.length) := by
 unfold Jo.B4
 refine .bind' (.forL (fun k _ => NoP n ports at_ k) (fun d : Int × List Hop × Int => ∃ k y, FirstP n ports at_ k y ∧ d = ((k : Int), hops, min rate (-y))) (fun i _ _ h => absurd h (Nat.not_lt_zero _)) ?_ ?_ ?_)
 ·intro k p _ Y hi
  dsimp only at Y
  have Z := (gs Y).1
  have hx : ports[k]? = some (ports[k]'(by have := h.pl; omega)) := gq _
  generalize ports[k]'(by have := h.pl; omega) = x at hx
  have ad := h.prt k x hx
  unfold Jo.B10 Jo.J11
  refine Cc (fun he => .bind' (.eq (Bd hx) ?_)) fun he => A9 (fun h => by cases h) fun _ => .pure (hi.succ Y hx fun h => absurd h he)
  refine Bb (fun D => .bind' (.eq (Bd hx) (.pure ⟨k, x, ⟨⟨p, Y, he⟩, hx, D, hi⟩, ?_⟩))) fun D => .pure (hi.succ Y hx fun _ => by dsimp only at D; omega)
  dsimp only
  rw [Bg (by omega), Int.zero_sub]
 ·intro _ G
  simp only [Sum.elim_inl]
  unfold Jo.J5
  refine .bind' (.forL (fun k _ => NoS n rates at_ k) (fun d : List Hop × Int × Int => ∃ k s r, FirstS n rates at_ k s r ∧ d = (hops ++ [⟨(k : Int), decide (r < 0)⟩], min rate (max r (-r)), Gm s r)) (fun i _ _ h => absurd h (Nat.not_lt_zero _)) ?_ ?_ ?_)
  ·intro k s _ O hi
   dsimp only at O
   have Z := (gs O).1
   have M : rates[k]? = some (rates[k]'(by have := h.rl; omega)) := gq _
   generalize rates[k]'(by have := h.rl; omega) = r at M
   have ac := h.rng k r s M O
   unfold Jo.B7 Jo.J8 Jo.J9
   refine .bind' (.eq (Bd M) (A9 (fun hb => .bind' (.app (by simp; omega) (.pure ?_))) fun W => A9 (fun hb => .bind' (.app (by simp; omega) (.pure ?_))) fun X => .pure (hi.succ O M fun aa => ?_)))
   ·simp at hb
    refine ⟨k, s, r, ⟨O, M, .inl hb, hi⟩, ?_⟩
    unfold Gm
    rw [decide_eq_false (by omega), if_neg (by omega)]
    dsimp only; rw [show max r (-r) = r by omega]
   ·simp at hb
    refine ⟨k, s, r, ⟨O, M, .inr hb, hi⟩, ?_⟩
    unfold Gm
    rw [decide_eq_true hb.1, if_pos hb.1, Bg (by omega), show max r (-r) = 0 - r by omega]
   ·simp at W X
    rcases aa with ⟨h1, h2⟩ | ⟨h1, h2⟩
    ·exact W h1 h2
    ·exact X h1 h2
  ·intro _ ab
   simp only [Sum.elim_inl]
   exact .pure (.inr (.inr ⟨G, ab⟩))
  ·rintro _ ⟨k, s, r, hf, rfl⟩
   exact .pure (.inr (.inl ⟨G, k, s, r, hf, rfl⟩))
 ·rintro _ ⟨k, y, hf, rfl⟩
  exact .pure (.inl ⟨k, y, hf, rfl⟩)
theorem fJ {n : Network} {rates : List Int} {up : Bool} {ports : List Int} (hn : NetOk n) (h : Res n up rates ports) {at_ : Int} :
  Ok (Qi n rates at_) fun o => (∃ k s r, FirstS n rates at_ k s r ∧ o = (⟨(k : Int), decide (r < 0)⟩, true)) ∨ (NoS n rates at_ n.Segments.length) := by
 have hrl := h.rl; have h1 := hn.segs1
 unfold Qi
 refine .bind (Q := fun d : (Hop × Bool) ⊕ Unit => (∃ k s r, FirstS n rates at_ k s r ∧ d = .inl (⟨(k : Int), decide (r < 0)⟩, true)) ∨ (NoS n rates at_ n.Segments.length ∧ d = .inr ())) ?_ ?_
 ·refine .loop (fun st : Int => 0 ≤ st ∧ st ≤ (rates.length : Int) ∧ NoS n rates at_ st.toNat) (fun st => rates.length - st.toNat) ⟨by omega, by omega, fun i _ _ h => absurd h (Nat.not_lt_zero _)⟩ (by omega) ?_
  rintro st ⟨Y, h2, hi⟩
  obtain ⟨k, rfl⟩ := El Y
  rw [Int.toNat_natCast] at hi
  unfold Qi.B2
  refine Bb (fun aa => ?_) fun Z => .pure (.inr ⟨by rw [show n.Segments.length = k by omega]; exact hi, rfl⟩)
  have M : rates[k]? = some (rates[k]'(by omega)) := gq _
  have O : n.Segments[k]? = some (n.Segments[k]'(by omega)) := gq _
  generalize rates[k]'(by omega) = r at M
  generalize n.Segments[k]'(by omega) = s at O
  have W : Lv s r at_ → Ok (Qi.J3 rates (k : Int) true) (Sum.elim (fun st : Int => (0 ≤ st ∧ st ≤ (rates.length : Int) ∧ NoS n rates at_ st.toNat) ∧ rates.length - st.toNat < rates.length - ((k : Nat) : Int).toNat) fun d => (∃ k s r, FirstS n rates at_ k s r ∧ d = .inl (⟨(k : Int), decide (r < 0)⟩, true)) ∨ (NoS n rates at_ n.Segments.length ∧ d = .inr ())) := by
   intro hl
   unfold Qi.J3
   exact A9 (fun _ => .bind' (.eq (Bd M) (.pure (.inl ⟨k, s, r, ⟨O, M, hl, hi⟩, rfl⟩)))) fun h => by cases h
  have no : ¬ Lv s r at_ → Ok (Qi.J3 rates (k : Int) false) (Sum.elim (fun st : Int => (0 ≤ st ∧ st ≤ (rates.length : Int) ∧ NoS n rates at_ st.toNat) ∧ rates.length - st.toNat < rates.length - ((k : Nat) : Int).toNat) fun d => (∃ k s r, FirstS n rates at_ k s r ∧ d = .inl (⟨(k : Int), decide (r < 0)⟩, true)) ∨ (NoS n rates at_ n.Segments.length ∧ d = .inr ())) := by
   intro hl
   unfold Qi.J3
   refine A9 (fun h => by cases h) fun _ => .pure ?_
   rw [Bg (by omega)]
   exact ⟨⟨by omega, by omega, by rw [show ((k : Int) + 1).toNat = k + 1 by omega]; exact hi.succ O M hl⟩, by omega⟩
  refine .bind' (.eq (Bd M) (Bb (fun D => .bind' (.eq (Bd O) (Cc (fun he => W (.inl ⟨D, he⟩)) fun he => Bb (fun G => by dsimp only at D G; omega) fun _ => no ?_))) fun D => Bb (fun G => .bind' (.eq (Bd O) ?_)) fun G => no ?_))
  ·rintro (⟨_, h⟩ | ⟨h, _⟩)
   ·exact he h
   ·dsimp only at D; omega
  ·dsimp only at D G ⊢
   by_cases he : s.To = at_
   ·rw [show (s.To == at_) = true by simp [he]]; exact W (.inr ⟨G, he⟩)
   ·rw [show (s.To == at_) = false by simp [he]]
    refine no ?_
    rintro (⟨h, _⟩ | ⟨_, h⟩)
    ·omega
    ·exact he h
  ·dsimp only at D G
   rintro (⟨h, _⟩ | ⟨h, _⟩) <;> omega
 ·rintro d (⟨k, s, r, hf, rfl⟩ | ⟨X, rfl⟩)
  ·exact .pure (.inl ⟨k, s, r, hf, rfl⟩)
  ·exact .pure (.inr X)
theorem Pe {n : Network} {rates ports : List Int} (X : NetOk n) {up : Bool} (h : Res n up rates ports) {hops : List Hop} {rate at_ in_ : Int} (hl : hops.length ≤ 100) {j : Nat} (hj : j ≤ n.Nodes.length) (hc : NoP n ports at_ n.Ports.length → ¬ NoS n rates at_ n.Segments.length) :
  Ok (M7.B2 n rates ports in_ (hops, rate, at_, (j : Int))) fun o => (∃ k y, FirstP n ports at_ k y ∧ o = .inr (.inl (⟨in_, (k : Int), hops, min rate (-y)⟩, true))) ∨ (NoP n ports at_ n.Ports.length ∧ ∃ k s r, FirstS n rates at_ k s r ∧ o = .inl (hops ++ [⟨(k : Int), decide (r < 0)⟩], min rate (max r (-r)), Gm s r, ((j + 1 : Nat) : Int))) := by
 have hpl := h.pl; have h2 := X.ports1; have hnn := X.nodes
 unfold M7.B2
 refine Bb (fun _ => ?_) fun h => by dsimp only at h; omega
 refine .bind (Q := fun d : (Path × Bool) ⊕ Unit => (∃ k y, FirstP n ports at_ k y ∧ d = .inl (⟨in_, (k : Int), hops, min rate (-y)⟩, true)) ∨ (NoP n ports at_ n.Ports.length ∧ d = .inr ())) ?_ ?_
 ·refine .loop (fun st : Int => 0 ≤ st ∧ st ≤ (ports.length : Int) ∧ NoP n ports at_ st.toNat) (fun st => ports.length - st.toNat) ⟨by omega, by omega, fun i _ _ h => absurd h (Nat.not_lt_zero _)⟩ (by omega) ?_
  rintro st ⟨h0, h4, hi⟩
  obtain ⟨k, rfl⟩ := El h0
  rw [Int.toNat_natCast] at hi
  unfold M7.B5
  refine Bb (fun hlt => ?_) fun hge => .pure (.inr ⟨by rw [show n.Ports.length = k by omega]; exact hi, rfl⟩)
  have M : n.Ports[k]? = some (n.Ports[k]'(by omega)) := gq _
  have hx : ports[k]? = some (ports[k]'(by omega)) := gq _
  generalize n.Ports[k]'(by omega) = p at M
  generalize ports[k]'(by omega) = x at hx
  have hxr := h.prt k x hx
  have no : (p.Node = at_ → 0 ≤ x) → Ok (M7.J6 ports in_ (hops, rate, at_, (j : Int)) (k : Int) false) (Sum.elim (fun st : Int => (0 ≤ st ∧ st ≤ (ports.length : Int) ∧ NoP n ports at_ st.toNat) ∧ ports.length - st.toNat < ports.length - ((k : Nat) : Int).toNat) fun d => (∃ k y, FirstP n ports at_ k y ∧ d = .inl (⟨in_, (k : Int), hops, min rate (-y)⟩, true)) ∨ (NoP n ports at_ n.Ports.length ∧ d = .inr ())) := by
   intro hh
   unfold M7.J6
   refine A9 (fun h => by cases h) fun _ => .pure ?_
   rw [Bg (by omega)]
   exact ⟨⟨by omega, by omega, by rw [show ((k : Int) + 1).toNat = k + 1 by omega]; exact hi.succ M hx hh⟩, by omega⟩
  refine .bind' (.eq (Bd M) (Cc (fun he => .bind' (.eq (Bd hx) ?_)) fun he => no fun h => absurd h he))
  dsimp only
  by_cases D : x < 0
  ·rw [decide_eq_true D]
   unfold M7.J6
   refine A9 (fun _ => .bind' (.eq (Bd hx) (.pure (.inl ⟨k, x, ⟨⟨p, M, he⟩, hx, D, hi⟩, ?_⟩)))) fun h => by cases h
   dsimp only
   rw [Bg (by omega), Int.zero_sub]
  ·rw [decide_eq_false D]
   exact no fun _ => by omega
 ·rintro d (⟨k, y, hf, rfl⟩ | ⟨G, rfl⟩)
  ·exact .pure (.inl ⟨k, y, hf, rfl⟩)
  ·simp only [Sum.elim_inr]
   unfold M7.J4
   refine .bind (fJ X h) ?_
   rintro _ (⟨k, s, r, hf, rfl⟩ | Y)
   ·have W := hf
    obtain ⟨Z, q2, q3, _⟩ := W
    have hrr := h.rng k r s q2 Z
    refine Dd (fun h => by cases h) fun _ => .bind' (.app (by simp; omega) (.bind' (.eq (Bd q2) ?_)))
    refine .bind (Q := fun e : Int × Int => e.2 = Gm s r) ?_ ?_
    ·unfold Mw Gm
     refine .bind' (.eq (Bd Z) ?_)
     dsimp only
     by_cases O : r < 0
     ·rw [decide_eq_true O, if_pos O]; exact A9 (fun _ => .pure rfl) fun h => by cases h
     ·rw [decide_eq_false O, if_neg O]; exact A9 (fun h => by cases h) fun _ => .pure rfl
    rintro ⟨e1, e2⟩ he
    dsimp only at he
    subst he
    unfold M7.J3 Nc
    refine .pure (.inr ⟨G, k, s, r, hf, ?_⟩)
    dsimp only
    rw [Bg (x := (j : Int) + 1) (by omega), Bg (x := 0 - r) (by omega), show (0 : Int) - r = -r by omega]; rfl
   ·exact absurd Y (hc G)
theorem eB {n : Network} {up : Bool} {rates ports : List Int} (h : Res n up rates ports) {at_ : Int} (hc : E4 n rates ports at_) (h1 : NoP n ports at_ n.Ports.length) : ¬ NoS n rates at_ n.Segments.length := fun h2 =>
 Wj h hc (fun i p x D => h1 i p x (gs D).1 D) fun k s r G M => by
  have := h2 k s r (gs G).1 G M
  unfold Lv at this
  exact ⟨fun h => this (.inl h), fun h => this (.inr h)⟩
theorem Yu {n : Network} (hn : NetOk n) {up : Bool} {rates ports : List Int} (h : Res n up rates ports) {x0 s0 : Int} {hops : List Hop} {rate at_ : Int} (w : Walk n up rates ports x0 s0 hops rate at_) {k : Nat} {s : Segment} {r : Int} (hf : FirstS n rates at_ k s r) :
  Walk n up rates ports x0 s0 (hops ++ [⟨(k : Int), decide (r < 0)⟩]) (min rate (max r (-r))) (Gm s r) ∧ We n up (Gm s r) < We n up at_ := by
 obtain ⟨Y, Z, q4, _⟩ := hf
 obtain ⟨nd, w1, w2, w3⟩ := w.way
 have hlen := w.len
 have W := w.rt
 have M := w.at_
 have hh : HopIs n rates at_ ⟨(k : Int), decide (r < 0)⟩ (Gm s r) := by
  refine ⟨k, s, r, rfl, Y, Z, ?_⟩
  rcases q4 with ⟨a, b⟩ | ⟨a, b⟩
  ·exact .inl ⟨by simp; omega, a, b, by unfold Gm; rw [if_neg (by omega)]⟩
  ·exact .inr ⟨by simp [a], a, b, by unfold Gm; rw [if_pos a]⟩
 have O := hh.lt h
 have hse := (hn.segs k s Y).ends
 have G : 0 ≤ Gm s r ∧ Gm s r < (n.Nodes.length : Int) := by unfold Gm; split <;> omega
 have D := T1 M G O
 have ea : dJ rates ⟨(k : Int), decide (r < 0)⟩ = max r (-r) := Mn rfl Z
 have hr0 : r ≠ 0 := by rcases q4 with ⟨a, _⟩ | ⟨a, _⟩ <;> omega
 refine ⟨⟨⟨_, w1.snoc (by rw [w3]; exact hh), by simp [w2], by simp; omega⟩, G, by simp; omega, by omega, fun x hx => ?_, ?_, .inr ⟨k, s, r, Y, Z, by omega, ?_⟩⟩, D⟩
 ·rcases List.mem_append.1 hx with hx | hx
  ·have := w.most x hx; omega
  ·simp at hx; subst hx; rw [ea]; omega
 ·by_cases hle : rate ≤ max r (-r)
  ·rw [show min rate (max r (-r)) = rate by omega]
   rcases w.tight with X | ⟨x, hx, X⟩
   ·exact .inl X
   ·exact .inr ⟨x, by simp [hx], X⟩
  ·exact .inr ⟨⟨(k : Int), decide (r < 0)⟩, by simp, by rw [ea]; omega⟩
 ·unfold Gm
  rcases q4 with ⟨a, b⟩ | ⟨a, b⟩
  ·exact .inl ⟨a, by rw [if_neg (by omega)]⟩
  ·exact .inr ⟨a, by rw [if_pos a]⟩
theorem lZ {n : Network} (O : NetOk n) {up : Bool} {rates ports : List Int} (h : Res n up rates ports) {i0 : Nat} {p0 : Port} {x0 : Int} (hp0 : n.Ports[i0]? = some p0) (hx0 : ports[i0]? = some x0) (Y : 0 < x0) {d : Int × List Hop × Int}
  (hd : Ch (Jo.B4 ⟨n, rates, ports⟩) Dm ([], x0, p0.Node) = some d) :
  Ch (M7.B2 n rates ports (i0 : Int)) Dm ([], x0, p0.Node, 0) = some (.inl (⟨(i0 : Int), d.1, d.2.1, d.2.2⟩, true)) := by
 have hnn := O.nodes; have hsn := O.segs1
 have aa := (O.ports i0 p0 hp0).node
 have : Ok (Ch (M7.B2 n rates ports (i0 : Int)) Dm ([], x0, p0.Node, 0)) fun o => o = .inl (⟨(i0 : Int), d.1, d.2.1, d.2.2⟩, true) := by
  refine .loop (S := List Hop × Int × Int × Int) (fun st => Walk n up rates ports x0 p0.Node st.1 st.2.1 st.2.2.1 ∧ st.2.2.2 = (st.1.length : Int) ∧ ∃ D, Ch (Jo.B4 ⟨n, rates, ports⟩) D (st.1, st.2.1, st.2.2.1) = some d) (fun st => We n up st.2.2.1)
   ⟨⟨⟨fun _ => p0.Node, ⟨by simp⟩, rfl, rfl⟩, aa, ?_, by dsimp only; omega, by simp, .inl rfl, .inl ⟨i0, p0, x0, hp0, rfl, hx0, Y⟩⟩, rfl, Dm, hd⟩ ?_ ?_
  ·dsimp only [List.length_nil]
   unfold We; split <;> omega
  ·dsimp only
   unfold We; split <;> omega
  rintro ⟨hops, rate, at_, j⟩ ⟨w, hj, D, hl⟩
  dsimp only at w hl hj
  subst hj
  have hlen := w.len
  cases D with
  | zero => simp [Ch] at hl
  | succ D =>
   obtain ⟨o, ho, hP⟩ := mC (rate := rate) (at_ := at_) O h (hops := hops) (by omega)
   simp only [Ch, ho] at hl
   refine (Pe O h (hops := hops) (by omega) (by omega) (eB h w.comes)).mono ?_
   rintro _ (⟨k, y, hf, rfl⟩ | ⟨X, k, s, r, hf, rfl⟩)
   ·rcases hP with ⟨k', y', G, rfl⟩ | ⟨M, _⟩ | ⟨M, _⟩
    ·obtain ⟨rfl, rfl⟩ := hf.one G
     simp only [Option.some.injEq] at hl
     subst hl; rfl
    ·exact (hf.no M).elim
    ·exact (hf.no M).elim
   ·rcases hP with ⟨k', y', G, rfl⟩ | ⟨_, k', s', r', G, rfl⟩ | ⟨_, Z⟩
    ·exact (G.no X).elim
    ·obtain ⟨rfl, rfl, rfl⟩ := hf.one G
     obtain ⟨w', W⟩ := Yu O h w hf
     exact ⟨⟨w', by simp, D, hl⟩, W⟩
    ·exact absurd Z (eB h w.comes X)
 obtain ⟨o, h, rfl⟩ := this
 exact h
theorem fM {n : Network} (X : NetOk n) {up : Bool} {rates ports : List Int} (h : Res n up rates ports) {i0 : Nat} {x0 : Int} (hx0 : ports[i0]? = some x0) (M : 0 < x0) {r : Path × paths_divider} (D : Jo ⟨n, rates, ports⟩ (i0 : Int) = some r) :
  M7 n rates ports (i0 : Int) = some (r.1, true) := by
 have W := (gs hx0).1
 have hp0 : n.Ports[i0]? = some (n.Ports[i0]'(by have := h.pl; omega)) := gq _
 generalize n.Ports[i0]'(by have := h.pl; omega) = p0 at hp0
 unfold Jo at D
 obtain ⟨p, G, D⟩ := Option.bind_eq_some_iff.1 D
 dsimp only at G
 rw [Bd hx0] at G; cases G
 obtain ⟨p, G, D⟩ := Option.bind_eq_some_iff.1 D
 dsimp only at G
 rw [Bd hp0] at G; cases G
 obtain ⟨d, O, D⟩ := Option.bind_eq_some_iff.1 D
 have Y := lZ X h hp0 hx0 M O
 unfold Jo.J1 at D
 obtain ⟨q, _, D⟩ := Option.bind_eq_some_iff.1 D
 obtain ⟨z, _, D⟩ := Option.bind_eq_some_iff.1 D
 unfold Jo.J2 at D
 cases D
 have : Ok (M7 n rates ports (i0 : Int)) fun o => o = (⟨(i0 : Int), d.1, d.2.1, d.2.2⟩, true) := by
  unfold M7
  refine .bind' (.eq (Bd hx0) (.bind' (.eq (Bd hp0) ?_)))
  dsimp only
  rw [Y]
  exact .bind' (.pure (.pure rfl))
 obtain ⟨o, h, rfl⟩ := this
 exact h
inductive Dv (n : Network) : List Int → List Int → Nat → List Path → List Path → Prop
 | done {rates ports : List Int} {k : Nat} {out : List Path} (h : ports.length ≤ k) : Dv n rates ports k out out
 | next {rates ports : List Int} {k : Nat} {out a : List Path} {x : Int} (h : ports[k]? = some x) (hx : x ≤ 0) (t : Dv n rates ports (k + 1) out a) : Dv n rates ports k out a
 | path {rates ports : List Int} {k : Nat} {out a : List Path} {x : Int} {r : Path × paths_divider} (h : ports[k]? = some x) (hx : 0 < x) (hf : Jo ⟨n, rates, ports⟩ (k : Int) = some r) (t : Dv n r.2.rates r.2.ports k (out ++ [r.1]) a) : Dv n rates ports k out a
theorem Dv.one {n : Network} {rates ports : List Int} {k : Nat} {out a b : List Path} (h : Dv n rates ports k out a) : Dv n rates ports k out b → a = b := by
 induction h with
 | done h =>
  intro D
  cases D with
  | done _ => rfl
  | next h2 _ _ => have := (gs h2).1; omega
  | path h2 _ _ _ => have := (gs h2).1; omega
 | next h hx t ih =>
  intro D
  cases D with
  | done h2 => have := (gs h).1; omega
  | next h2 _ t2 => exact ih t2
  | path h2 hx2 _ _ => rw [h] at h2; simp at h2; omega
 | path h hx hf t ih =>
  intro D
  cases D with
  | done h2 => have := (gs h).1; omega
  | next h2 hx2 _ => rw [h] at h2; simp at h2; omega
  | path h2 hx2 hf2 t2 => rw [hf] at hf2; cases hf2; exact ih t2
theorem fN {n : Network} (W : NetOk n) {p : Plan} (Y : PlanOk n p) : Ok (G3 n p) fun r => Dv n p.Rates p.Ports 0 [] r.1 := by
 obtain ⟨up, G⟩ := Y.res
 have h1 := W.segs1; have h2 := W.ports1; have h3 := Y.rl; have h4 := Y.pl
 have Ru : nz p.Rates + nz p.Ports ≤ 14 := by have := Kw p.Rates; have := Kw p.Ports; omega
 unfold G3
 rw [Jr W, Si W Y]
 refine .bind' (.pure (Cj (fun h => absurd rfl h) fun _ => .bind' (.pure (Cj (fun h => absurd rfl h) fun _ => ?_))))
 rw [L5 (by omega), L5 (by omega)]
 refine .bind' (.pure (.bind' (.pure ?_)))
 let I : Nat → List ByteArray × List Segment × List Port × List Station × Int × Int × List Int × List Int × List Path → Prop := fun k st => ∃ rates ports out, st = (n.Nodes, n.Segments, n.Ports, n.Stations, n.Vapour, n.Settle, rates, ports, out) ∧ DInv n up p rates ports out ∧ ∀ a, Dv n rates ports k out a → Dv n p.Rates p.Ports 0 [] a
 refine .bind' (.forI (S := List ByteArray × List Segment × List Port × List Station × Int × Int × List Int × List Int × List Path) I (fun _ => False) ⟨_, _, _, rfl, .start G, fun a h => h⟩ ?_ ?_ fun _ h => h.elim)
 ·rintro k _ hk ⟨rates, ports, out, rfl, hi, M⟩
  unfold G3.B2
  dsimp only
  refine .bind (Q := fun d : ((List Path) × Int) ⊕ (List ByteArray × List Segment × List Port × List Station × Int × Int × List Int × List Int × List Path) => ∃ st, d = .inr st ∧ I (k + 1) st) ?_ ?_
  ·refine .loop (S := List ByteArray × List Segment × List Port × List Station × Int × Int × List Int × List Int × List Path) (I k) (fun st => nz st.2.2.2.2.2.2.1 + nz st.2.2.2.2.2.2.2.1) ⟨rates, ports, out, rfl, hi, M⟩ (by have := hi.count; dsimp only; omega) ?_
   rintro _ ⟨rates, ports, out, rfl, hi, M⟩
   have hpl := hi.res.pl
   have hx : ports[k]? = some (ports[k]'(by omega)) := gq _
   generalize ports[k]'(by omega) = x at hx
   unfold G3.B4
   refine .bind' (.eq (Bd hx) (Bb (fun D => ?_) fun X => .pure ⟨_, rfl, rates, ports, out, rfl, hi, fun a h => M a (.next hx (by dsimp only at X; omega) h)⟩))
   dsimp only at D ⊢
   obtain ⟨⟨y, d⟩, O, o, p0, po, y1, nd, f⟩ := N3 W hi.res hx D
   dsimp only at f
   refine .bind' (.eq O ?_)
   obtain ⟨Z, g2, g3⟩ := hi.follow G f
   have hc := hi.count
   have hf := f.len
   refine A9 (fun hb => ?_) fun _ => .bind' (.app (by simp; omega) (.pure ⟨⟨d.rates, d.ports, out ++ [y], ?_, Z, fun a h => M a (.path hx D O h)⟩, g2⟩))
   ·simp at hb; omega
   ·rw [f.net]
  ·rintro _ ⟨st, rfl, rates, ports, out, rfl, hi, M⟩
   simp only [Sum.elim_inr]
   unfold G3.J3
   exact .pure ⟨rates, ports, out, rfl, hi, M⟩
 ·rintro _ ⟨rates, ports, out, rfl, hi, M⟩
  simp only [Sum.elim_inl]
  unfold G3.J1
  exact .pure (M _ (.done (by have := hi.res.pl; omega)))
theorem Vp {n : Network} (hn : NetOk n) {p : Plan} (W : PlanOk n p) {a : List Path} (ha : G3 n p = some (a, 0)) : Im n p = some (a, 0) := by
 have : Ok (Im n p) fun r => r.2 = 0 ∧ Dv n p.Rates p.Ports 0 [] r.1 := by
  obtain ⟨up, X⟩ := W.res
  have h1 := hn.segs1; have h2 := hn.ports1; have h3 := W.rl; have h4 := W.pl
  have Ru : nz p.Rates + nz p.Ports ≤ 14 := by have := Kw p.Rates; have := Kw p.Ports; omega
  unfold Im
  rw [Lp hn W.flow]
  refine .bind' (.pure (Cj (fun h => absurd rfl h) fun _ => .bind' (.app (by simp; omega) (.bind' (.app (by simp; omega) ?_)))))
  simp only [List.nil_append]
  refine .bind (Q := fun d : ((List Path) × Int) ⊕ List Path => ∃ a, d = .inr a ∧ Dv n p.Rates p.Ports 0 [] a) ?_ ?_
  ·refine .loop (S := List Int × List Int × List Path × Int) (fun st => ∃ k : Nat, st.2.2.2 = (k : Int) ∧ k ≤ n.Ports.length ∧ DInv n up p st.1 st.2.1 st.2.2.1 ∧ ∀ a, Dv n st.1 st.2.1 k st.2.2.1 a → Dv n p.Rates p.Ports 0 [] a) (fun st => n.Ports.length - st.2.2.2.toNat)
    ⟨0, rfl, by omega, .start X, fun a h => h⟩ (by dsimp only; omega) ?_
   rintro ⟨rates, ports, out, j⟩ ⟨k, hj, hk, hi, M⟩
   dsimp only at hj hi M
   subst hj
   have hpl := hi.res.pl
   unfold Im.B2
   refine Bb (fun Z => ?_) fun Y => .pure ⟨_, rfl, M _ (.done (by dsimp only at Y; omega))⟩
   dsimp only at Z
   refine .bind (Q := fun d : ((List Path) × Int) ⊕ (List Int × List Int × List Path) => ∃ st, d = .inr st ∧ DInv n up p st.1 st.2.1 st.2.2 ∧ ∀ a, Dv n st.1 st.2.1 (k + 1) st.2.2 a → Dv n p.Rates p.Ports 0 [] a) ?_ ?_
   ·refine .loop (S := List Int × List Int × List Path) (fun st => DInv n up p st.1 st.2.1 st.2.2 ∧ ∀ a, Dv n st.1 st.2.1 k st.2.2 a → Dv n p.Rates p.Ports 0 [] a) (fun st => nz st.1 + nz st.2.1) ⟨hi, M⟩ (by have := hi.count; dsimp only; omega) ?_
    rintro ⟨rates, ports, out⟩ ⟨hi, M⟩
    dsimp only at hi M
    have hpl := hi.res.pl; have hrl := hi.res.rl
    have hx : ports[k]? = some (ports[k]'(by omega)) := gq _
    generalize ports[k]'(by omega) = x at hx
    unfold Im.B4
    refine .bind' (.eq (Bd hx) (Bb (fun D => ?_) fun hneg => .pure ⟨_, rfl, hi, fun a h => M a (.next hx (by dsimp only at hneg; omega) h)⟩))
    dsimp only at D ⊢
    obtain ⟨⟨y, d⟩, hfo, o, p0, po, y1, nd, f⟩ := N3 hn hi.res hx D
    dsimp only at f
    obtain ⟨g1, g2, g3⟩ := hi.follow X f
    have hc := hi.count
    have hf := f.len
    obtain ⟨hx0, hx0p⟩ := f.hx0
    obtain ⟨hy, hyn⟩ := f.hy
    have hrt := f.rt
    have hxr := hi.res.prt k x hx
    have hyr := hi.res.prt o y1 hy
    have hne : k ≠ o := by rintro rfl; rw [hx] at hy; simp at hy; omega
    refine .bind' (.eq (fM hn hi.res hx D hfo) ?_)
    refine A9 (fun hb => ?_) fun _ => ?_
    ·simp at hb; omega
    rw [f.in_, f.out]
    refine .bind' (.eq (Bd hx) ?_)
    dsimp only
    rw [Bg (x := x - y.Rate) (by omega)]
    refine .bind' (.eq (Bd (show (ports.set k (x - y.Rate))[o]? = some y1 by rw [List.getElem?_set_ne hne]; exact hy)) ?_)
    have e : (ports.set k (wr (x - y.Rate))).set o (wr (y1 + y.Rate)) = d.ports := by rw [Bg (x := x - y.Rate) (by omega), Bg (x := y1 + y.Rate) (by omega), f.hports]
    refine .bind (Q := fun rs => rs = d.rates) ?_ ?_
    ·refine .loop (S := List Int × Int) (fun st => ∃ j : Nat, st.2 = (j : Int) ∧ j ≤ y.Hops.length ∧ st.1.length = rates.length ∧ ∀ (m : Nat) (r : Int), rates[m]? = some r → st.1[m]? = some (r - C7 y.Rate m (y.Hops.take j))) (fun st => y.Hops.length - st.2.toNat) ⟨0, rfl, by omega, rfl, fun m r O => by simp [C7, O]⟩ (by dsimp only; omega) ?_
     rintro ⟨st, i⟩ ⟨j, hj, hjl, hsl, G⟩
     dsimp only at hj hsl G
     subst hj
     unfold Im.B6
     refine Bb (fun Z => ?_) fun Y => .pure ?_
     ·dsimp only at Z
      have hh : y.Hops[j]? = some (y.Hops[j]'(by omega)) := gq _
      generalize y.Hops[j]'(by omega) = W at hh
      obtain ⟨m, s, r0, q1, q2, q3, q4⟩ := f.way.hop j W hh
      have O := G m r0 q3
      have hrr := hi.res.rng m r0 s q3 q2
      have hb := G9 (rate := y.Rate) (by omega) m (y.Hops.take j)
      rw [List.length_take] at hb
      refine .bind' (.eq (Bd hh) ?_)
      dsimp only
      rw [q1]
      have j7 : ∀ z, z = r0 - C7 y.Rate m (y.Hops.take j) - Hj y.Rate W → Ok (Im.J7 (st, (j : Int)) (st.set m z)) (Sum.elim (fun st : List Int × Int => (∃ j : Nat, st.2 = (j : Int) ∧ j ≤ y.Hops.length ∧ st.1.length = rates.length ∧ ∀ (m : Nat) (r : Int), rates[m]? = some r → st.1[m]? = some (r - C7 y.Rate m (y.Hops.take j))) ∧ y.Hops.length - st.2.toNat < y.Hops.length - ((j : Nat) : Int).toNat) fun rs => rs = d.rates) := by
       intro z hz'
       unfold Im.J7
       refine .pure ⟨⟨j + 1, by dsimp only; rw [Bg (by omega)]; omega, by omega, by simp [hsl], fun m' r hm' => ?_⟩, by dsimp only; rw [Bg (by omega)]; omega⟩
       dsimp only
       rw [H9 hh]
       have hml := (gs O).1
       by_cases hmm : m = m'
       ·subst hmm
        rw [hm'] at q3; simp at q3; subst q3
        rw [List.getElem?_set_self hml, if_pos q1, hz']; congr 1; omega
       ·rw [List.getElem?_set_ne hmm, G m' r hm', if_neg (by omega)]; simp
      rcases q4 with ⟨b, _⟩ | ⟨b, _⟩
      ·rw [b]
       refine A9 (fun h => by cases h) fun _ => .bind' (.eq (Bd O) ?_)
       dsimp only
       rw [Bg (by omega)]
       exact j7 _ (by unfold Hj; rw [b]; simp)
      ·rw [b]
       refine A9 (fun _ => .bind' (.eq (Bd O) ?_)) fun h => by cases h
       dsimp only
       rw [Bg (by omega)]
       exact j7 _ (by unfold Hj; rw [b]; simp)
     ·dsimp only at Y
      have : j = y.Hops.length := by omega
      subst this
      show st = d.rates
      obtain ⟨r1, r2⟩ := f.hrates
      refine List.ext_getElem? fun m => ?_
      by_cases O : m < rates.length
      ·rw [G m _ (gq O), r2 m _ (gq O), List.take_length]
      ·rw [List.getElem?_eq_none (by omega), List.getElem?_eq_none (by omega)]
    ·rintro _ rfl
     unfold Im.J5
     refine .bind' (.app (by simp; omega) ?_)
     dsimp only
     rw [e]
     exact .pure ⟨⟨g1, fun a h => M a (.path hx D hfo h)⟩, g2⟩
   ·rintro _ ⟨st, rfl, hi, M⟩
    simp only [Sum.elim_inr]
    unfold Im.J3
    exact .pure ⟨⟨k + 1, by dsimp only; rw [Bg (by omega)]; omega, by omega, hi, M⟩, by dsimp only; rw [Bg (by omega)]; omega⟩
  ·rintro _ ⟨a, rfl, hd⟩
   exact .pure ⟨rfl, hd⟩
 obtain ⟨⟨b, e⟩, h, rfl, hb⟩ := this
 obtain ⟨⟨a', e'⟩, h', ha'⟩ := fN hn W
 rw [ha] at h'; cases h'
 have := ha'.one hb
 dsimp only at this
 subst this
 exact h
def lM (ramp : Int) (s : Step) : Prop := s.Kind = 5 → -ramp ≤ s.Value ∧ s.Value ≤ ramp
theorem iZ {ramp : Int} (O : 0 ≤ ramp ∧ ramp ≤ 1000) {l : List Step} (h : ∀ s, s ∈ l → lM ramp s) : Ok (Ji l) fun m => 0 ≤ m ∧ m ≤ ramp := by
 unfold Ji
 refine .bind (.forS (fun _ st => 0 ≤ st ∧ st ≤ ramp) ⟨by omega, by omega⟩ ?_ fun st h => h) fun st D => .pure D
 intro k s st M hi
 unfold Ji.B2 Ji.J3
 refine Cc (fun G => .pure ?_) fun _ => .pure hi
 have := h s (mg M) G
 rw [Bg (by omega)]; omega
theorem Qst.len {n : Network} {a b : List Path} {f : Desk} (h : Qst n a b f) : f.Plan.Rates.length = n.Segments.length := by
 rcases h with ⟨rs, _, _, h2, _⟩ | ⟨rs, _, _, h2, _⟩ <;> rw [h2, Dr]
theorem fZ {x y : Path} (hl : x.Hops.length ≤ 1000) : Ok (K4 x y) fun r => r = true ↔ (x.In = y.In ∧ x.Out = y.Out ∧ x.Hops = y.Hops) := by
 unfold K4
 refine A9 (fun hb => .pure ?_) fun hb => ?_
 ·simp only [Bool.false_eq_true, false_iff]
  rintro ⟨h1, h2, G⟩
  simp [h1, h2, G] at hb
 simp at hb
 obtain ⟨h1, h2, G⟩ := hb
 refine .bind (Q := fun d : Bool ⊕ Unit => (d = .inl false ∧ x.Hops ≠ y.Hops) ∨ (d = .inr () ∧ x.Hops = y.Hops)) ?_ ?_
 ·refine .loop (fun st : Int => 0 ≤ st ∧ st ≤ (x.Hops.length : Int) ∧ ∀ j : Nat, (j : Int) < st → x.Hops[j]? = y.Hops[j]?) (fun st => x.Hops.length - st.toNat) ⟨by omega, by omega, fun j X => by omega⟩ (by omega) ?_
  rintro st ⟨Y, h4, W⟩
  obtain ⟨k, rfl⟩ := El Y
  unfold K4.B2
  refine Bb (fun aa => ?_) fun Z => .pure (.inr ⟨rfl, ?_⟩)
  ·have D : x.Hops[k]? = some (x.Hops[k]'(by omega)) := gq _
   have hb : y.Hops[k]? = some (y.Hops[k]'(by omega)) := gq _
   generalize x.Hops[k]'(by omega) = u at D
   generalize y.Hops[k]'(by omega) = v at hb
   refine .bind' (.eq (Bd D) (.bind' (.eq (Bd hb) (Dd (fun h => .pure (.inl ⟨rfl, ?_⟩)) fun h => .pure ?_))))
   ·intro he; rw [he, hb] at D; simp at D; subst D; simp at h
   ·rw [Bg (by omega)]
    have O : u = v := by
     simp at h
     cases u; cases v; simp_all
    refine ⟨⟨by omega, by omega, fun j X => ?_⟩, by omega⟩
    by_cases M : j = k
    ·subst M; rw [D, hb, O]
    ·exact W j (by omega)
  ·refine List.ext_getElem? fun j => ?_
   by_cases X : j < x.Hops.length
   ·exact W j (by omega)
   ·rw [List.getElem?_eq_none (by omega), List.getElem?_eq_none (by omega)]
 ·rintro _ (⟨rfl, h⟩ | ⟨rfl, h⟩)
  ·refine .pure ?_
   simp only [Bool.false_eq_true, false_iff]
   rintro ⟨_, _, G⟩; exact h G
  ·simp only [Sum.elim_inr]
   unfold K4.J1
   exact .pure ⟨fun _ => ⟨h1, h2, h⟩, fun _ => rfl⟩
theorem jP {x y : Path} (hl : x.Hops.length ≤ 1000) : K4 x y = some (decide (Alike x y)) := by
 obtain ⟨r, h, D⟩ := fZ (y := y) hl
 rw [h]; congr 1
 cases r with
 | true => exact (decide_eq_true (D.1 rfl)).symm
 | false => exact (decide_eq_false fun h => by have := D.2 h; cases this).symm
def Wp (l : List Path) (p : Path) (k : Nat) (y : Path) : Prop := l[k]? = some y ∧ Alike y p ∧ ∀ (i : Nat) (z : Path), i < k → l[i]? = some z → ¬ Alike z p
theorem jE {l : List Path} (h : ∀ x, x ∈ l → x.Hops.length ≤ 1000) (hl : l.length ≤ 1000) {p : Path} : Ok (Jn l p) fun r => (r = -1 ∧ ∀ y, y ∈ l → ¬ Alike y p) ∨ ∃ k y, r = ((k : Nat) : Int) ∧ Wp l p k y := by
 unfold Jn
 refine .bind (Q := fun d : Int ⊕ Unit => (∃ k y, d = .inl ((k : Nat) : Int) ∧ Wp l p k y) ∨ (d = .inr () ∧ ∀ y, y ∈ l → ¬ Alike y p)) ?_ ?_
 ·refine .loop (fun st : Int => 0 ≤ st ∧ st ≤ (l.length : Int) ∧ ∀ (i : Nat) (z : Path), (i : Int) < st → l[i]? = some z → ¬ Alike z p) (fun st => l.length - st.toNat) ⟨by omega, by omega, fun i z h => by omega⟩ (by omega) ?_
  rintro st ⟨Y, h1, hi⟩
  obtain ⟨k, rfl⟩ := El Y
  unfold Jn.B2
  refine Bb (fun aa => ?_) fun Z => .pure (.inr ⟨rfl, fun y hy => ?_⟩)
  ·have hx : l[k]? = some (l[k]'(by omega)) := gq _
   generalize l[k]'(by omega) = x at hx
   refine .bind' (.eq (Bd hx) ?_)
   dsimp only
   rw [jP (h x (mg hx))]
   refine .bind' (.pure (Bb (fun O => .pure (.inl ⟨k, x, rfl, hx, O, fun i z W => hi i z (by omega)⟩)) fun O => .pure ?_))
   rw [Bg (by omega)]
   refine ⟨⟨by omega, by omega, fun i z W M => ?_⟩, by omega⟩
   by_cases G : i = k
   ·subst G; rw [hx] at M; simp at M; subst M; exact O
   ·exact hi i z (by omega) M
  ·obtain ⟨i, D⟩ := List.getElem?_of_mem hy
   exact hi i y (by have := (gs D).1; omega) D
 ·rintro _ (⟨k, y, rfl, hf⟩ | ⟨rfl, X⟩)
  ·exact .pure (.inr ⟨k, y, rfl, hf⟩)
  ·exact .pure (.inl ⟨rfl, X⟩)
def rt : List Path → Path → Int
 | [], _ => 0
 | y :: l, u => if Alike y u then y.Rate else rt l u
theorem Ya : ∀ {l : List Path} {u : Path}, (∀ y, y ∈ l → ¬ Alike y u) → rt l u = 0
 | [], _, _ => rfl
 | y :: l, u, h => by simp only [rt]; rw [if_neg (h y (by simp))]; exact Ya fun z D => h z (by simp [D])
theorem Vd : ∀ {l : List Path} {u y : Path} {k : Nat}, Wp l u k y → rt l u = y.Rate
 | [], u, y, k, h => by have := h.1; simp at this
 | z :: l, u, y, 0, h => by
  obtain ⟨h1, h2, _⟩ := h
  simp at h1; subst h1
  simp only [rt]; rw [if_pos h2]
 | z :: l, u, y, k + 1, h => by
  obtain ⟨h1, h2, D⟩ := h
  simp only [rt]
  rw [if_neg (D 0 z (by omega) rfl)]
  exact Vd (k := k) ⟨by simpa using h1, h2, fun i w hi G => D (i + 1) w (by omega) (by simpa using G)⟩
theorem Xx : ∀ {l : List Path} {u : Path}, 1 ≤ u.Rate → mr l u = min u.Rate (rt l u)
 | [], _, h => by simp only [mr, rt]; omega
 | y :: l, u, h => by simp only [mr, rt]; split <;> first | rfl | exact Xx h
theorem dV : ∀ {l : List Path} {u : Path}, (∀ y, y ∈ l → 1 ≤ y.Rate ∧ y.Rate ≤ 1000) → 0 ≤ rt l u ∧ rt l u ≤ 1000
 | [], _, _ => by simp [rt]
 | y :: l, u, h => by
  have := h y (by simp)
  have := dV (l := l) (u := u) fun z D => h z (by simp [D])
  simp only [rt]; split <;> omega
theorem Un {n : Network} {p : Plan} {b : List Path} : ∀ {a : List Path}, (∀ u, u ∈ a → PathOk n p u) → ∀ x, x ∈ Ii b a → PathOk n p x
 | [], _, x, h => by cases h
 | u :: a, hp, x, h => by
  simp only [Ii] at h
  have D := hp u (by simp)
  split at h
  ·rcases List.mem_cons.1 h with rfl | h
   ·refine D.rated ⟨by omega, ?_⟩
    have := D.small
    have := Xx (l := b) this.2.1
    omega
   ·exact Un (fun v hv => hp v (by simp [hv])) x h
  ·exact Un (fun v hv => hp v (by simp [hv])) x h
theorem fS {b : List Path} (hb : ∀ y, y ∈ b → 1 ≤ y.Rate ∧ y.Rate ≤ 1000) {a : List Path} (h : ∀ u, u ∈ a → 1 ≤ u.Rate) : (∀ k, Cw k (Ii b a) = Ea (fs k) a (a.map (mr b))) ∧ ∀ k, Cv k (Ii b a) = Ea (FP k) a (a.map (mr b)) := by
 have D : ∀ u, u ∈ a → 0 ≤ mr b u := fun u G => by
  have := Xx (l := b) (h u G); have := dV (u := u) hb; have := h u G; omega
 exact ⟨fun k => by rw [← Ll, Ln (Ke k) (Q1 k) D], fun k => by rw [← Jq, Ln (Kf k) (Q2 k) D]⟩
theorem fR {a b : List Path} (W : ∀ u, u ∈ a → u.Hops.length ≤ 1000 ∧ 1 ≤ u.Rate ∧ u.Rate ≤ 1000) (hb : ∀ u, u ∈ b → u.Hops.length ≤ 1000 ∧ 1 ≤ u.Rate ∧ u.Rate ≤ 1000) (Y : a.length ≤ 1000) (Z : b.length ≤ 1000) : M1 a b = some (Ii b a) := by
 have : Ok (M1 a b) fun r => r = Ii b a := by
  unfold M1
  refine .bind (Q := fun r => r = Ii b a) ?_ ?_
  ·refine .loop (S := List Path × Int) (fun st => ∃ k : Nat, st.2 = (k : Int) ∧ k ≤ a.length ∧ st.1 = Ii b (a.take k)) (fun st => a.length - st.2.toNat) ⟨0, rfl, by omega, rfl⟩ (by dsimp only; omega) ?_
   rintro ⟨_, _⟩ ⟨k, rfl, X, rfl⟩
   dsimp only at X ⊢
   unfold M1.B2 M1.J3
   refine Bb (fun M => ?_) fun G => .pure ?_
   ·dsimp only at M
    have hx : a[k]? = some (a[k]'(by omega)) := gq _
    generalize a[k]'(by omega) = u at hx
    have O := W u (mg hx)
    have hm := Xx (l := b) O.2.1
    have e : a.take (k + 1) = a.take k ++ [u] := by rw [List.take_add_one, hx]; rfl
    have D := Lo b (a.take k)
    rw [List.length_take] at D
    refine .bind' (.eq (Bd hx) (.bind (jE (fun x h => (hb x h).1) (by omega)) ?_))
    rintro r (⟨rfl, h⟩ | ⟨i, y, rfl, h⟩)
    ·refine Bb (fun h => by omega) fun _ => .pure ⟨⟨k + 1, by dsimp only; rw [Bg (by omega)]; omega, by omega, ?_⟩, by dsimp only; rw [Bg (by omega)]; omega⟩
     have : rt b u = 0 := Ya h
     dsimp only
     rw [e, Iy, if_neg (by omega), List.append_nil]
    ·refine Bb (fun _ => ?_) fun h => absurd (by omega) h
     have hy : rt b u = y.Rate := Vd h
     have hy2 := hb y (mg h.1)
     rw [eH O.1]
     refine .bind' (.pure (.bind' (.eq (Bd h.1) (.bind' (.app (by simp only [List.length_cons, List.length_nil]; omega) (.pure ⟨⟨k + 1, by dsimp only; rw [Bg (by omega)]; omega, by omega, ?_⟩, by dsimp only; rw [Bg (by omega)]; omega⟩))))))
     dsimp only
     rw [e, Iy, if_pos (by omega), hm, hy]; rfl
   ·dsimp only at G
    have : k = a.length := by omega
    subst this
    show Ii b (List.take a.length a) = Ii b a
    rw [List.take_length]
  rintro _ rfl
  exact .pure rfl
 obtain ⟨r, h, rfl⟩ := this
 exact h
theorem Ox {n : Network} {up : Bool} {p : Plan} (G : Res n up p.Rates p.Ports) {k : Nat} {r : Int} (D : p.Rates[k]? = some r) : ∀ {m : List Path}, (∀ x, x ∈ m → PathOk n p x) → (0 ≤ r → 0 ≤ Cw k m) ∧ (r ≤ 0 → Cw k m ≤ 0)
 | [], _ => by simp [Cw]
 | x :: m, h => by
  have a := (h x (by simp)).sign G D
  have b := Ox G D (m := m) fun y hy => h y (by simp [hy])
  simp only [Cw]; omega
theorem U8 {n : Network} {p : Plan} (k : Nat) : ∀ {m : List Path}, (∀ x, x ∈ m → PathOk n p x) → (-(5000 * (m.length : Int)) ≤ Cw k m ∧ Cw k m ≤ 5000 * (m.length : Int)) ∧ -(5000 * (m.length : Int)) ≤ Cv k m ∧ Cv k m ≤ 5000 * (m.length : Int)
 | [], _ => by simp [Cw, Cv]
 | x :: m, h => by
  have hx := h x (by simp)
  have D := hx.small
  have a := eM hx k (x := x.Rate) (by omega)
  have c := eN k x (x := x.Rate) (by omega)
  have b := U8 k (m := m) fun y hy => h y (by simp [hy])
  unfold fs at a
  unfold FP at c
  rw [Q8] at c
  simp only [Cw, Cv, List.length_cons]; omega
theorem Sg {n : Network} {rates : List Int} {k : Nat} {r x : Int} (G : rates[k]? = some r) (hx : 0 ≤ x) : ∀ {l : List Hop}, (∀ h, h ∈ l → ∃ a b, HopIs n rates a h b) → (0 ≤ r → 0 ≤ C7 x k l) ∧ (r ≤ 0 → C7 x k l ≤ 0)
 | [], _ => by simp [C7]
 | h :: l, hh => by
  have O := Sg G hx (l := l) fun y hy => hh y (by simp [hy])
  obtain ⟨_, _, m, s, r0, W, X, D, M⟩ := hh h (by simp)
  simp only [C7]
  by_cases he : h.Segment = (k : Int)
  ·have : m = k := by omega
   subst this
   rw [G] at D; simp at D; subst D
   rw [if_pos he]
   unfold Hj
   rcases M with ⟨b, q, _⟩ | ⟨b, q, _⟩ <;> rw [b] <;> simp <;> omega
  ·rw [if_neg he]; omega
theorem mB {n : Network} (hn : NetOk n) {up : Bool} {p : Plan} (hr : Res n up p.Rates p.Ports) (hrl : p.Rates.length = n.Segments.length) {m : List Path} (hm : ∀ x, x ∈ m → PathOk n p x) (hl : m.length ≤ 14) {q : Plan} (q1 : q.Rates.length = n.Segments.length) (q2 : q.Ports.length = n.Ports.length) (q3 : q.Pumps.length = n.Stations.length)
  (q4 : ∀ (k : Nat) (r : Int), q.Rates[k]? = some r → r = Cw k m) (q5 : ∀ (k : Nat) (r : Int), q.Ports[k]? = some r → r = Cv k m) (hc : Fo n q = some 0) : M6 n m q.Pumps = some (q, 0) := by
 have h1 := hn.segs1; have h2 := hn.ports1; have h3 := hn.sts1
 have : Ok (M6 n m q.Pumps) fun r => r = (q, 0) := by
  unfold M6
  rw [Pa hn]
  refine .bind' (.pure (Cj (fun h => absurd rfl h) fun _ => Bb (fun h => by omega) fun _ => .bind' (.mk n.Segments.length rfl (by omega) (.bind' (.mk n.Ports.length rfl (by omega) (.bind' (.app (by simp; omega) ?_)))))))
  rw [List.nil_append]
  unfold M6.J1
  refine .bind (Q := fun d : (Plan × Int) ⊕ Unit => d = .inr ()) ?_ ?_
  ·refine .loop (fun st : Int => 0 ≤ st ∧ st ≤ (m.length : Int)) (fun st => m.length - st.toNat) ⟨by omega, by omega⟩ (by omega) ?_
   rintro st ⟨h0, h4⟩
   obtain ⟨k, rfl⟩ := El h0
   unfold M6.B9
   refine Bb (fun Y => ?_) fun _ => .pure rfl
   have hx : m[k]? = some (m[k]'(by omega)) := gq _
   refine .bind' (.eq (Bd hx) (.bind' (.eq (X3 hr (hm _ (mg hx))) (Dd (fun h => by cases h) fun _ => .pure ?_))))
   rw [Bg (by omega)]; exact ⟨⟨by omega, by omega⟩, by omega⟩
  rintro _ rfl
  simp only [Sum.elim_inr]
  unfold M6.J2
  refine .bind (Q := fun d : (Plan × Int) ⊕ (List Int × List Int) => d = .inr (q.Rates, q.Ports)) ?_ ?_
  ·refine .loop (S := List Int × List Int × Int) (fun st => ∃ j : Nat, st.2.2 = (j : Int) ∧ j ≤ m.length ∧ st.1.length = n.Segments.length ∧ (∀ (k : Nat) (r : Int), st.1[k]? = some r → r = Cw k (m.take j)) ∧ st.2.1.length = n.Ports.length ∧ ∀ (k : Nat) (r : Int), st.2.1[k]? = some r → r = Cv k (m.take j)) (fun st => m.length - st.2.2.toNat)
    ⟨0, rfl, by omega, by simp, fun k r h => ?_, by simp, fun k r h => ?_⟩ (by dsimp only; omega) ?_
   ·have := (List.mem_replicate.1 (mg h)).2
    simp [Cw, this]
   ·have := (List.mem_replicate.1 (mg h)).2
    simp [Cv, this]
   rintro ⟨rates, ports, _⟩ ⟨j, rfl, hj, hl1, Z, hl2, O⟩
   dsimp only at hj hl1 Z hl2 O ⊢
   unfold M6.B4
   refine Bb (fun Y => ?_) fun hge => .pure ?_
   ·dsimp only at Y
    have hx : m[j]? = some (m[j]'(by omega)) := gq _
    generalize m[j]'(by omega) = x at hx
    have hxm := hm x (mg hx)
    have htk : ∀ y, y ∈ m.take j → PathOk n p y := fun y hy => hm y (List.mem_of_mem_take hy)
    have e : m.take (j + 1) = m.take j ++ [x] := by rw [List.take_add_one, hx]; rfl
    have es : ∀ k, Cw k (m.take (j + 1)) = Cw k (m.take j) + C7 x.Rate k x.Hops := fun k => by rw [e, F4]; simp only [Cw]; omega
    have ep : ∀ k, Cv k (m.take (j + 1)) = Cv k (m.take j) + D9 k x := fun k => by rw [e, Fk]; simp only [Cv]; omega
    have W := fun k => U8 k htk
    have htl : (m.take j).length ≤ 14 := by rw [List.length_take]; omega
    obtain ⟨i, o, p0, po, y0, y1, nd, e1, e2, e3, e4, e5, e6, e7, e8, w, e9, e10, e11, e12, e13⟩ := hxm
    have hil := (gs e3).1
    have hol := (gs e4).1
    have hne : i ≠ o := by rintro rfl; rw [e5] at e7; simp at e7; omega
    have hpi : ports[i]? = some (ports[i]'(by omega)) := gq _
    have hpo : ports[o]? = some (ports[o]'(by omega)) := gq _
    generalize ports[i]'(by omega) = zi at hpi
    generalize ports[o]'(by omega) = zo at hpo
    have hzi := O i zi hpi; have hzo := O o zo hpo
    have bi := W i; have bo := W o
    refine .bind' (.eq (Bd hx) ?_)
    dsimp only
    rw [e1, e2]
    refine .bind' (.eq (Bd hpi) ?_)
    dsimp only
    rw [Bg (x := zi + x.Rate) (by omega)]
    refine .bind' (.eq (Bd (show (ports.set i (zi + x.Rate))[o]? = some zo by rw [List.getElem?_set_ne hne]; exact hpo)) ?_)
    have fin : ∀ (k : Nat) (r : Int), ((ports.set i (wr (zi + x.Rate))).set o (wr (zo - x.Rate)))[k]? = some r → r = Cv k (m.take (j + 1)) := by
     intro k r D
     rw [Bg (x := zi + x.Rate) (by omega), Bg (x := zo - x.Rate) (by omega), Ds, Ds] at D
     rw [ep]
     unfold D9
     rw [e1, e2]
     by_cases hko : o = k
     ·subst hko
      rw [if_pos ⟨rfl, by simp; omega⟩] at D; simp at D
      rw [if_neg (by omega), if_pos rfl]; omega
     ·rw [if_neg (fun h => hko h.1)] at D
      by_cases hki : i = k
      ·subst hki
       rw [if_pos ⟨rfl, by omega⟩] at D; simp at D
       rw [if_pos rfl, if_neg (by omega)]; omega
      ·rw [if_neg (fun h => hki h.1)] at D
       have := O k r D
       rw [if_neg (by omega), if_neg (by omega)]; omega
    have fl : ((ports.set i (wr (zi + x.Rate))).set o (wr (zo - x.Rate))).length = n.Ports.length := by simp [hl2]
    refine .bind (Q := fun d : (Plan × Int) ⊕ (List Int × List Int) => ∃ rs, d = .inr (rs, (ports.set i (wr (zi + x.Rate))).set o (wr (zo - x.Rate))) ∧ rs.length = n.Segments.length ∧ ∀ (k : Nat) (r : Int), rs[k]? = some r → r = Cw k (m.take (j + 1))) ?_ ?_
    ·refine .loop (S := List Int × Int) (fun st => ∃ t : Nat, st.2 = (t : Int) ∧ t ≤ x.Hops.length ∧ st.1.length = n.Segments.length ∧ ∀ (k : Nat) (r : Int), st.1[k]? = some r → r = Cw k (m.take j) + C7 x.Rate k (x.Hops.take t)) (fun st => x.Hops.length - st.2.toNat) ⟨0, rfl, by omega, hl1, fun k r h => by have := Z k r h; simp [C7, this]⟩ (by dsimp only; omega) ?_
     rintro ⟨rs, _⟩ ⟨t, rfl, ht, hsl, G⟩
     dsimp only at ht hsl G ⊢
     unfold M6.B6
     refine Bb (fun Y => ?_) fun hge => .pure ?_
     ·dsimp only at Y
      have hh : x.Hops[t]? = some (x.Hops[t]'(by omega)) := gq _
      generalize x.Hops[t]'(by omega) = h at hh
      obtain ⟨k, s, r0, g1, g2, g3, g4⟩ := w.hop t h hh
      have hkl := (gs g2).1
      have D : rs[k]? = some (rs[k]'(by omega)) := gq _
      generalize rs[k]'(by omega) = z at D
      have hz := G k z D
      have a1 := Ox hr g3 htk
      have a2 := Sg (x := x.Rate) g3 (by omega) (l := x.Hops.take t) fun y hy => by
       obtain ⟨v, hv⟩ := List.getElem?_of_mem (List.mem_of_mem_take hy)
       exact ⟨_, _, w.hop v y hv⟩
      have hb := G9 (rate := x.Rate) (by omega) k (x.Hops.take t)
      rw [List.length_take] at hb
      have bk := W k
      refine .bind' (.eq (Bd hh) ?_)
      have j8 : ∀ sg, sg = Hj x.Rate h → Ok (M6.J8 (rs, (t : Int)) (t, h) sg false) (Sum.elim (fun st => (∃ t : Nat, st.2 = (t : Int) ∧ t ≤ x.Hops.length ∧ st.1.length = n.Segments.length ∧ ∀ (k : Nat) (r : Int), st.1[k]? = some r → r = Cw k (m.take j) + C7 x.Rate k (x.Hops.take t)) ∧ x.Hops.length - st.2.toNat < x.Hops.length - (t : Int).toNat)
        fun d => ∃ rs, d = .inr (rs, (ports.set i (wr (zi + x.Rate))).set o (wr (zo - x.Rate))) ∧ rs.length = n.Segments.length ∧ ∀ (k : Nat) (r : Int), rs[k]? = some r → r = Cw k (m.take (j + 1))) := by
       rintro sg rfl
       unfold M6.J8
       refine A9 (fun h => by cases h) fun _ => ?_
       dsimp only
       rw [g1]
       refine .bind' (.eq (Bd D) (.pure ⟨⟨t + 1, by dsimp only; rw [Bg (by omega)]; omega, by omega, by simp [hsl], fun k' r M => ?_⟩, by dsimp only; rw [Bg (by omega)]; omega⟩))
       dsimp only at M
       have X : -1000 ≤ Hj x.Rate h ∧ Hj x.Rate h ≤ 1000 := by unfold Hj; split <;> omega
       rw [Bg (by omega), Ds] at M
       rw [H9 hh]
       by_cases hkk : k = k'
       ·subst hkk
        rw [if_pos ⟨rfl, by omega⟩] at M; simp at M
        rw [if_pos g1]; omega
       ·rw [if_neg (fun h => hkk h.1)] at M
        rw [if_neg (by omega)]
        have := G k' r M; omega
      have j7 : ∀ sg, sg = Hj x.Rate h → Ok (M6.J7 (rs, (t : Int)) (t, h) sg) (Sum.elim (fun st => (∃ t : Nat, st.2 = (t : Int) ∧ t ≤ x.Hops.length ∧ st.1.length = n.Segments.length ∧ ∀ (k : Nat) (r : Int), st.1[k]? = some r → r = Cw k (m.take j) + C7 x.Rate k (x.Hops.take t)) ∧ x.Hops.length - st.2.toNat < x.Hops.length - (t : Int).toNat)
        fun d => ∃ rs, d = .inr (rs, (ports.set i (wr (zi + x.Rate))).set o (wr (zo - x.Rate))) ∧ rs.length = n.Segments.length ∧ ∀ (k : Nat) (r : Int), rs[k]? = some r → r = Cw k (m.take (j + 1))) := by
       intro sg X
       have hsg' := X
       unfold Hj at X
       unfold M6.J7
       dsimp only
       rw [g1]
       rcases g4 with ⟨b, q, _⟩ | ⟨b, q, _⟩ <;> rw [b] at X <;> simp at X
       ·refine Bb (fun _ => .bind' (.eq (Bd D) (Bb (fun hneg => ?_) fun _ => Bb (fun h => by omega) fun _ => j8 sg hsg'))) fun h => absurd (by omega) h
        dsimp only at hneg; omega
       ·refine Bb (fun h => by omega) fun _ => Bb (fun _ => .bind' (.eq (Bd D) ?_)) fun h => absurd (by omega) h
        rw [show decide (((k, z) : Nat × Int).2 > 0) = false from decide_eq_false (by dsimp only; omega)]
        exact j8 sg hsg'
      dsimp only
      refine A9 (fun hb' => j7 _ ?_) fun hb' => j7 _ ?_
      ·rw [Bg (by omega)]; unfold Hj; rw [if_pos hb']; omega
      ·unfold Hj; rw [if_neg (by rw [hb']; simp)]
     ·dsimp only at hge
      have : t = x.Hops.length := by omega
      subst this
      rw [List.take_length] at G
      exact ⟨rs, rfl, hsl, fun k r D => by rw [es]; exact G k r D⟩
    ·rintro _ ⟨rs, rfl, hrs, G⟩
     simp only [Sum.elim_inr]
     unfold M6.J5
     exact .pure ⟨⟨j + 1, by dsimp only; rw [Bg (by omega)]; omega, by omega, hrs, G, fl, fin⟩, by dsimp only; rw [Bg (by omega)]; omega⟩
   ·dsimp only at hge
    have : j = m.length := by omega
    subst this
    rw [List.take_length] at Z O
    have d1 : rates = q.Rates := by
     refine List.ext_getElem? fun k => ?_
     by_cases D : k < n.Segments.length
     ·have a1 : rates[k]? = some (rates[k]'(by omega)) := gq _
      have a2 : q.Rates[k]? = some (q.Rates[k]'(by omega)) := gq _
      rw [a1, a2, Z k _ a1, q4 k _ a2]
     ·rw [List.getElem?_eq_none (by omega), List.getElem?_eq_none (by omega)]
    have d2 : ports = q.Ports := by
     refine List.ext_getElem? fun k => ?_
     by_cases D : k < n.Ports.length
     ·have a1 : ports[k]? = some (ports[k]'(by omega)) := gq _
      have a2 : q.Ports[k]? = some (q.Ports[k]'(by omega)) := gq _
      rw [a1, a2, O k _ a1, q5 k _ a2]
     ·rw [List.getElem?_eq_none (by omega), List.getElem?_eq_none (by omega)]
    subst d1; subst d2; rfl
  rintro _ rfl
  simp only [Sum.elim_inr]
  unfold M6.J3
  refine Cj (fun h => absurd (by omega) h) fun _ => ?_
  dsimp only
  rw [show (⟨q.Rates, q.Ports, q.Pumps⟩ : Plan) = q from rfl, hc]
  exact .bind' (.pure (Cj (fun h => absurd rfl h) fun _ => .pure rfl))
 obtain ⟨r, h, rfl⟩ := this
 exact h
theorem iU {l : List Step} (h : ∀ s, s ∈ l → s.Kind ≠ 5) : Ji l = some 0 := by
 obtain ⟨m, h1, h2, M⟩ := iZ (ramp := 0) (by omega) (l := l) fun s G D => absurd D (h s G)
 rw [h1, show m = 0 by omega]
theorem fQ {n : Network} (D : NetOk n) {d : Desk} (G : DeskOk n d) {ramp rest : Int} {a b : List Path} {sp cs os : List Nat} {most : Int} {ss : List Nat} (hc : Comp n d d.Plan ramp rest a b sp cs os most ss) :
  (Gz ramp rest a b sp cs os most ss).length ≤ 400 ∧ ∀ s, s ∈ Gz ramp rest a b sp cs os most ss → s.Kind ≠ 5 := by
 obtain ⟨_, _, _, e, O⟩ := Zb D G hc
 have h1 := D.segs1; have h2 := D.ports1
 have W := O.len; have X := G.vs.1
 have w := H3 most
 rw [e]
 refine ⟨by simp only [List.length_append, List.length_map]; omega, fun s M => ?_⟩
 simp only [List.mem_append, List.mem_map] at M
 rcases M with (⟨i, _, rfl⟩ | ⟨i, _, rfl⟩) | h
 ·intro h; cases h
 ·intro h; cases h
 ·unfold E7 at h
  split at h
  ·rw [List.mem_singleton] at h; subst h; intro h; cases h
  ·cases h
theorem Yx {n : Network} {Y Z : Bool} {p to : Plan} {a b : List Path} (G : Divided n Y p a) (hb : Divided n Z to b) (hpl : p.Ports.length = n.Ports.length) (htl : to.Ports.length = n.Ports.length) {f : Desk} (h : Qst n a b f) {k : Nat} {c : Int} (hc : (Cy n a (a.map (mr b)))[k]? = some c) :
  ∃ x, f.Plan.Ports[k]? = some x ∧ (0 < c → c ≤ x) ∧ (c < 0 → x ≤ c) := by
 have M : Part a (a.map (mr b)) := .common G.paths hb.paths
 have O : Part b (b.map (mr a)) := .common hb.paths G.paths
 obtain ⟨hk, X⟩ := Ev hc
 rcases h with ⟨rs, h1, h2, _, W⟩ | ⟨rs, h1, h2, _, W⟩
 ·have D : p.Ports[k]? = some (p.Ports[k]'(by omega)) := gq _
  have m1 := H5 G M h1 h2 D
  have m2 := Gs G M D
  exact ⟨_, by rw [W, Du hk], by omega, by omega⟩
 ·have e : Cy n a (a.map (mr b)) = Cy n b (b.map (mr a)) := congrArg Plan.Ports (O1 G.apt hb.apt [])
  rw [e] at hc
  obtain ⟨_, X⟩ := Ev hc
  have D : to.Ports[k]? = some (to.Ports[k]'(by omega)) := gq _
  have m1 := H5 hb O h1 h2 D
  have m2 := Gs hb O D
  exact ⟨_, by rw [W, Du hk], by omega, by omega⟩
theorem Uw (l : List Int) : Pr l = some true := by
 have : Ok (Pr l) fun r => r = true := by
  unfold Pr
  refine Dd (fun _ => dR) fun _ => .bind (kU l) fun s Y => .bind (kV Y) ?_
  rintro ⟨n, s1⟩ ⟨D, Y⟩
  dsimp only at D Y
  have h1 := D.segs1; have h2 := D.ports1; have h3 := D.sts1
  refine .bind (dW D Y) ?_
  rintro ⟨p, s2⟩ ⟨hp, _, Y⟩
  refine .bind (lC D Y hp) ?_
  rintro ⟨d0, s3⟩ ⟨hd0, Y⟩
  refine .bind (lB D hd0) fun d G => ?_
  unfold Pr.J1
  refine .bind (dW D Y) ?_
  rintro ⟨to, s4⟩ ⟨ht, hf, _⟩
  dsimp only at ht hf ⊢
  obtain ⟨⟨a, _⟩, ea, rfl, upa, M⟩ := Kj D G.plan
  obtain ⟨⟨b, _⟩, eb, rfl, upb, hb⟩ := Kj D ht
  dsimp only at M hb
  refine .bind' (.eq (Vp D G.plan ea) (.bind' (.eq (Vp D ht eb) ?_)))
  have hac := M.count; have hbc := hb.count
  have sa : ∀ u, u ∈ a → u.Hops.length ≤ 1000 ∧ 1 ≤ u.Rate ∧ u.Rate ≤ 1000 := fun u hu => by have := (M.paths u hu).small; exact ⟨by omega, this.2⟩
  have sb : ∀ u, u ∈ b → u.Hops.length ≤ 1000 ∧ 1 ≤ u.Rate ∧ u.Rate ≤ 1000 := fun u hu => by have := (hb.paths u hu).small; exact ⟨by omega, this.2⟩
  have ab : Part a (a.map (mr b)) := .common M.paths hb.paths
  have hq := Kh G.plan M ab (pumps := List.replicate n.Stations.length false) (by simp)
  have hck := Lp D hq.flow
  obtain ⟨t1, t2⟩ := fS (b := b) (fun y hy => (sb y hy).2) (a := a) fun u hu => (sa u hu).2.1
  have hcl := Lo b a
  have C7 := mB D M.res G.plan.rl (m := Ii b a) (Un M.paths) (by omega) hq.rl hq.pl hq.ml (fun k r W => by rw [t1]; exact (Fs W).2) (fun k r W => by rw [t2]; exact (Ev W).2) hck
  refine .bind' (.eq (fR (a := a) (b := b) sa sb (by omega) (by omega)) (.bind' (.mk n.Stations.length rfl (by omega) (.bind' (.eq C7 ?_)))))
  unfold Pr.J2
  dsimp only
  refine .bind (Wz D G ht hf) ?_
  rintro _ ⟨a', b', sp, cs, os, most, ss, hc, rfl⟩
  have Z := hc.da; have aa := hc.db
  rw [ea] at Z; rw [eb] at aa
  simp only [Option.some.injEq, Prod.mk.injEq, and_true] at Z aa
  subst Z; subst aa
  obtain ⟨X, _⟩ := mA D G ht hf (by omega) (by omega) hc
  have hfew := Yb D G ht hc
  generalize Gz 300 0 a b sp cs os most ss = out at X hfew
  refine .bind (Rh D G G.plan G.fed (ramp := 5) (rest := 1) (by omega) (by omega)) ?_
  rintro _ ⟨a2, b2, sp2, cs2, os2, most2, ss2, hc2, rfl⟩
  obtain ⟨hf2, hk2⟩ := fQ D G hc2
  rw [if_neg (show ¬ (Gz 5 1 a2 b2 sp2 cs2 os2 most2 ss2).length > 400 by omega)]
  refine Cj (fun h => absurd rfl h) fun _ => Cj (fun h => absurd rfl h) fun _ => Cj (fun h => absurd rfl h) fun _ => Cj (fun h => absurd rfl h) fun _ => Cj (fun h => absurd rfl h) fun _ => .bind' (.eq (iU hk2) (Cj (fun h => absurd rfl h) fun _ => .bind' (.eq hck ?_)))
  unfold Pr.J3
  refine A9 (fun h => by simp at h) fun _ => .bind (Q := fun o : Bool ⊕ Unit => o = .inr ()) ?_ ?_
  ·refine .loop (S := List Valve × List Int × List Int × List Bool × Int) (fun st => ∃ k : Nat, st.2.2.2.2 = (k : Int) ∧ k ≤ out.length ∧ Runs n (Qst n a b) ⟨st.1, ⟨st.2.1, st.2.2.1, st.2.2.2.1⟩⟩ (out.drop k) _) (fun st => out.length - st.2.2.2.2.toNat) ⟨0, rfl, by omega, X⟩ (by dsimp only; omega) ?_
   rintro ⟨vs, rates, ports, pumps, _⟩ ⟨k, rfl, hk, W⟩
   dsimp only at W
   unfold Pr.B5
   refine Bb (fun hlt => ?_) fun hge => .pure rfl
   dsimp only at hlt
   have hx : out[k]? = some (out[k]'(by omega)) := gq _
   rw [List.drop_eq_getElem_cons (by omega)] at W
   generalize out[k]'(by omega) = s at hx W
   obtain ⟨f, g1, g2, g3⟩ := W
   refine .bind' (.eq (Bd hx) (.bind' (.eq g1 ?_)))
   unfold Pr.J7
   refine Cj (fun h => absurd rfl h) fun _ => .bind (Q := fun o : Bool ⊕ (List Valve × List Int × List Int × List Bool) => o = .inr (f.Valves, f.Plan.Rates, f.Plan.Ports, f.Plan.Pumps)) ?_ ?_
   ·have hpl := D3 n a (a.map (mr b))
    refine .loop (fun st : Int => 0 ≤ st ∧ st ≤ (n.Ports.length : Int)) (fun st => n.Ports.length - st.toNat) ⟨by omega, by omega⟩ (by omega) ?_
    rintro st ⟨h0, h4⟩
    obtain ⟨i, rfl⟩ := El h0
    unfold Pr.B8
    dsimp only [Cs]
    refine Bb (fun hlt => ?_) fun _ => .pure rfl
    have hy : (Cy n a (a.map (mr b)))[i]? = some ((Cy n a (a.map (mr b)))[i]'(by omega)) := gq _
    generalize (Cy n a (a.map (mr b)))[i]'(by omega) = c at hy
    obtain ⟨x, hx, c1, c2⟩ := Yx M hb G.plan.pl ht.pl g2 hy
    have j9 : Ok (Pr.J9 (i : Int) false) (Sum.elim (fun st => (0 ≤ st ∧ st ≤ (n.Ports.length : Int)) ∧ n.Ports.length - st.toNat < n.Ports.length - ((i : Nat) : Int).toNat) fun o => o = .inr (f.Valves, f.Plan.Rates, f.Plan.Ports, f.Plan.Pumps)) := by
     unfold Pr.J9
     refine A9 (fun h => by cases h) fun _ => .pure ?_
     rw [Bg (by omega)]; exact ⟨⟨by omega, by omega⟩, by omega⟩
    refine .bind' (.eq (Bd hy) (Bb (fun O => .bind' (.eq (Bd hx) (Bb (fun h => ?_) fun _ => Bb (fun h => ?_) fun _ => j9))) fun _ => Bb (fun hneg => .bind' (.eq (Bd hx) ?_)) fun _ => j9))
    ·dsimp only at h O; omega
    ·dsimp only at h O; omega
    ·dsimp only at hneg ⊢
     rw [show decide (x > c) = false from decide_eq_false (by omega)]
     exact j9
   rintro _ rfl
   simp only [Sum.elim_inr]
   unfold Pr.J6
   exact .pure ⟨⟨k + 1, by dsimp only; rw [Bg (by omega)]; omega, by omega, g3⟩, by dsimp only; rw [Bg (by omega)]; omega⟩
  rintro _ rfl
  simp only [Sum.elim_inr]
  unfold Pr.J4
  exact dR
 obtain ⟨r, h, rfl⟩ := this
 exact h
end Go.Proofs.YtmaamhgjeampmaaGreat
namespace Go.Aw
set_option linter.unusedVariables false
set_option linter.unusedSimpArgs false
open Go.ChangeShapes Go.WideShapes Go.ChangeAt Go.RowKit
section
variable {H : Type} {enc : TypeId × Value → H} {P : Program}
theorem Kr (hl : laidOutB P = true) {W W' : World} (hb : Below W.heap.size W W') : ∀ {G : List TypeId} {vs : List Value} {ds : List (DataW H)} {D : List MemPlace},
  (∀ t, t ∈ G → P.readableRec t = true ∧ t < P.types.size) → (∀ x, x ∈ D → x.block < W.heap.size) → DataW.TrodAll enc P W 0 (fun _ => true) true G vs ds D →
  DataW.TrodAll enc P W' 0 (fun b => decide (b < W.heap.size)) true G vs ds D
 | [], vs, ds, D, _, _, h => by
  cases vs <;> cases ds <;> simp [DataW.TrodAll] at h ⊢
  exact h
 | t :: G, vs, ds, D, ht, hlt, h => by
  obtain ⟨v, Y, d, X, p, q, rfl, rfl, rfl, h1, h2⟩ := trodAll_cons h
  have O := ht t (by simp)
  exact ⟨p, q, Below.trod hl O.1 O.2 h1 hb (fun x hx => hlt x (by simp [hx])), Kr hl hb (fun t M => ht t (by simp [M])) (fun x hx => hlt x (by simp [hx])) h2, rfl⟩
theorem fK {f : Func} {s : ChangeSpec} {W W' : World} {args : Array Value} {ds : List (DataW H)} {p : List MemPlace} {t : TypeId} (Z : DataW.Whole enc P f.params.toList s.vars false W args.toList ds [] (p ++ []))
  (hA : DataW.TrodAll enc P W 0 (fun _ => true) true f.params.toList args.toList ds p)
  (M : (s.fn H (ds ++ [])).results = [.lit (.bool true)]) (D : (s.fn H (ds ++ [])).args = ds) (hv : (s.fn H (ds ++ [])).vars = []) (Y : s.vars = [])
  (O : f.resultTypes.toList = [t]) (hu : P.underlying t = some .bool) (hl : laidOutB P = true) (G : ∀ t, t ∈ f.params.toList → P.readableRec t = true ∧ t < P.types.size)
  (hb : Below W.heap.size W W') : s.post enc P f false true false false W args (.bool true) W' := by
 have X : ∀ x, x ∈ p → x.block < W.heap.size := fun x hx => Z.lt x (by simp [hx])
 have hsz : f.resultTypes.size = 1 := by rw [← Array.length_toList, O]; rfl
 refine ⟨ds, [], p ++ [], [], p, [], Z, ?_, ?_, ?_, hb.frame _, fun h => by cases h⟩
 ·rw [M, O, hsz]
  exact trodAll_mk1 (shut_bool hu true)
 ·rw [D]
  exact Kr hl hb G X hA
 ·rw [hv, Y]; rfl
def lW (k : IntKind) (l : List Int) : T := .list 1 (l.map fun n => [.v (.int k n)])
theorem Y2 {t e : TypeId} {k : IntKind} {W : World} {ad : Nat} {r : Reach} {v : Value} {d : DataW H} {ps : List MemPlace} (ht : P.underlying t = some (.slice e)) (he : P.underlying e = some (.int k)) (hc : P.cellsOf e = 1)
  (hval : Value.okWide P W r ad t v) (h : DataW.Trod enc P W 0 (fun _ => true) true t v d ps) :
  ∃ l : List Int, (l.length ≤ Kv → VR (fun b => W.heap[b]?) v (lW k l)) ∧ (∀ n, n ∈ l → (Lit.int k n).wf = true) ∧ (l = [] ∨ ∃ O ac, d = .slice O ac ∧ l.length = O.length) := by
 obtain ⟨a0, len, cap, rfl⟩ := okWide_slice ht hval
 obtain ⟨fuel, hf⟩ := h
 rcases open_ints ht he hc hf with ⟨D, hx⟩ | ⟨a, len', cap', M, D, _, hl, hm, hz, hx, X, hwz⟩
 ·simp [Value.cells] at D
  obtain ⟨rfl, rfl, rfl⟩ := D
  exact ⟨[], fun _ => .empty _ _ _, by simp, .inl rfl⟩
 ·simp [Value.cells] at D
  obtain ⟨rfl, rfl, rfl⟩ := D
  simp only [Prod.mk.injEq] at hx
  obtain ⟨rfl, rfl⟩ := hx
  simp only [if_true] at hz
  have af : (M.take len).length = len := by simp; omega
  refine ⟨M.take len, fun hmax => ?_, fun n hn => hwz n (List.mem_of_mem_take hn), .inr ⟨_, _, rfl, by simp [lits]⟩⟩
  by_cases hl0 : len = 0
  ·subst hl0; simp only [List.take_zero, lW, List.map_nil]; exact .empty _ _ _
  ·obtain ⟨b, off, spot⟩ := a
   have ab : spot = none := by simpa [Addr.add] using World.cell?_spot (X 0 (by omega))
   subst ab
   have G : ∀ i, i < M.length → W.cell? ⟨b, off + i, none⟩ = some (.int k (M.getD i 0)) := fun i hi => by rw [← D7]; exact X i hi
   have Z := G 0 (by omega)
   have D : ∃ cs ty fr, W.heap[b]? = some (.cells cs ty fr) := by
    unfold World.cell? at Z
    split at Z
    ·rename_i c ty fr hh; exact ⟨_, _, _, hh⟩
    ·cases Z
   obtain ⟨cs, ty, fr, hh⟩ := D
   have Y : ∀ i, i < M.length → cs[off + i]? = some (.int k (M.getD i 0)) := fun i hi => by
    have := G i hi
    simpa [World.cell?, hh] using this
   have hlen : ((M.take len).map fun n => [T.v (.int k n)]).length = len := by rw [List.length_map, af]
   have hbig : off + len ≤ cs.size := by
    have := (Array.getElem?_eq_some_iff.1 (Y (len - 1) (by omega))).1
    omega
   have aa : ∀ i e, ((M.take len).map fun n => [T.v (.int k n)])[i]? = some e → ∀ (j : Nat) (x : T), e[j]? = some x → j = 0 ∧ x = .v (.int k (M.getD i 0)) ∧ cs.getD (off + i * 1 + j) undef = .int k (M.getD i 0) := by
    intro i e he j x hx
    simp only [List.getElem?_map, Option.map_eq_some_iff] at he
    obtain ⟨n, hn, rfl⟩ := he
    have ae := (List.getElem?_eq_some_iff.1 hn).1
    rw [af] at ae
    rw [List.getElem?_take_of_lt ae] at hn
    have hj : j = 0 := by have := (List.getElem?_eq_some_iff.1 hx).1; simp at this; exact this
    subst hj
    simp at hx
    have hzi : M.getD i 0 = n := by simp [List.getD, hn]
    refine ⟨rfl, by rw [hzi]; exact hx.symm, ?_⟩
    rw [Array.getD_eq_getD_getElem?, show off + i * 1 + 0 = off + i by omega, Y i (by omega)]; rfl
   have := VR.list (H := fun b => W.heap[b]?) b off cap 1 ((M.take len).map fun n => [T.v (.int k n)]) cs ty fr hh (by rw [hlen]; exact hl) (by rw [List.length_map]; exact hmax) (by rw [hlen]; omega)
    (fun i e he => by simp only [List.getElem?_map, Option.map_eq_some_iff] at he; obtain ⟨n, _, rfl⟩ := he; rfl)
    (fun i e he j x hx => by rw [(aa i e he j x hx).2.2]; rfl) (fun i e he j x hx => by rw [(aa i e he j x hx).2.2, (aa i e he j x hx).2.1]; exact .v _)
   rw [hlen] at this
   exact this
end
theorem Y4 {E : Env} {f : FuncId} {O : List T} {W : World} {args : Array Value} (G : iK fun b => W.heap[b]?) (hc : ACalls E f O [] fun x _ => x = .v (.bool true)) (hsz : args.size = O.length)
  (hv : ∀ (i : Nat) (x : T), O[i]? = some x → VR (fun b => W.heap[b]?) (args.getD i undef) x) : Calls E.P f args W fun e W' => e = .returned (.bool true) ∧ Below W.heap.size W W' := by
 refine (hc.2 (fun b => W.heap[b]?) W args hsz hv ⟨fun _ _ h => h, G⟩ (by simp) (by simp)).mono ?_
 rintro e w' ⟨v, x, aa, H', rfl, rfl, M, _, _, _, _, hs, ⟨X, Y, Z⟩, D⟩
 refine ⟨by rw [M.v_eq], ⟨X, Y, Z, hs, fun k hk => (D k hk (by simp)).1⟩⟩
end Go.Aw
