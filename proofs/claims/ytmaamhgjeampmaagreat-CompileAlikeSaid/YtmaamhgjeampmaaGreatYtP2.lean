/- Plain proofs. No condition. -/
import Derived.Test.YtmaamhgjeampmaaGreatYtP1
set_option maxRecDepth 100000
namespace Go.Proofs.YtmaamhgjeampmaaGreat
set_option linter.unusedVariables false
set_option linter.unusedSimpArgs false
open Go.Aw
def Ei (t : Int) (v : Valve) : Valve := ⟨v.Travel, if v.Want = true then min v.Travel (v.Open + t) else max 0 (v.Open - t), v.Want, v.Stuck⟩
structure VOk (v : Valve) : Prop where
 travel : 1 ≤ v.Travel ∧ v.Travel ≤ 60
 opn : 0 ≤ v.Open ∧ v.Open ≤ v.Travel
 free : v.Stuck = false
theorem VOk.valid {v : Valve} (h : VOk v) : G4 v = true := by
 have h1 := h.travel; have h2 := h.opn
 simp only [G4, Bool.and_eq_true, decide_eq_true_eq]; omega
theorem VOk.validP {v : Valve} (h : VOk v) : Gl v = true := h.valid
theorem Wh {v : Valve} (h : VOk v) {t : Int} (D : 0 ≤ t) : VOk (Ei t v) := by
 have h1 := h.travel; have h2 := h.opn
 refine ⟨h1, ?_, h.free⟩
 unfold Ei
 dsimp only
 split <;> omega
theorem U6 {v : Valve} (h : VOk v) : Ei 0 v = v := by
 have h1 := h.travel; have h2 := h.opn
 obtain ⟨a, b, c, d⟩ := v
 unfold Ei
 dsimp only at h1 h2 ⊢
 congr 1
 split <;> omega
theorem X2 {v : Valve} (h : VOk v) {s t : Int} (D : 0 ≤ s) (G : 0 ≤ t) : Ei t (Ei s v) = Ei (s + t) v := by
 have h1 := h.travel; have h2 := h.opn
 obtain ⟨a, b, c, d⟩ := v
 unfold Ei
 dsimp only at h1 h2 ⊢
 congr 1
 cases c <;> simp <;> omega
theorem eP {v : Valve} (h : VOk v) {t : Int} (D : 0 ≤ t) : Ei (min t 60) v = Ei t v := by
 have h1 := h.travel; have h2 := h.opn
 obtain ⟨a, b, c, d⟩ := v
 unfold Ei
 dsimp only at h1 h2 ⊢
 congr 1
 cases c <;> simp <;> omega
theorem kQ {v : Valve} (h : VOk v) : (Ht v).1 = Ei 1 v := by
 have h1 := h.travel; have h2 := h.opn
 unfold Ht Ht.J1
 rw [h.valid, h.free]
 obtain ⟨a, b, c, d⟩ := v
 have := h.free
 dsimp only at this h1 h2 ⊢
 subst this
 simp only [Bool.not_true, Bool.false_eq_true, if_false]
 unfold Ei
 dsimp only
 cases c
 ·simp only [Bool.false_and, Bool.false_eq_true, if_false, Bool.not_false, Bool.true_and]
  split
  ·rename_i hb
   have : 0 < b := by simpa using hb
   rw [Bg (by omega)]; show (⟨_, _, _, _⟩ : Valve) = _; congr 1; omega
  ·rename_i hb
   have : ¬ 0 < b := by simpa using hb
   show (⟨_, _, _, _⟩ : Valve) = _; congr 1; omega
 ·simp only [Bool.true_and, Bool.not_true, Bool.false_and, Bool.false_eq_true, if_false, if_true]
  split
  ·rename_i hb
   have : b < a := by simpa using hb
   rw [Bg (by omega)]; show (⟨_, _, _, _⟩ : Valve) = _; congr 1; omega
  ·rename_i hb
   have : ¬ b < a := by simpa using hb
   show (⟨_, _, _, _⟩ : Valve) = _; congr 1; omega
theorem kT {v : Valve} (h : VOk v) {t : Int} (W : 0 ≤ t ∧ t ≤ 400) : Nq v t = some (Ei t v, 0) := by
 have : Ok (Nq v t) fun r => r = (Ei t v, 0) := by
  unfold Nq
  rw [h.valid]
  refine Dd (fun h => by cases h) fun _ => A9 (fun hb => ?_) fun _ => ?_
  ·simp at hb; omega
  refine .bind (Q := fun d : Int × Int × Bool × Bool => d = ((Ei t v).Travel, (Ei t v).Open, (Ei t v).Want, (Ei t v).Stuck)) ?_ ?_
  ·refine .loop (S := Int × Int × Bool × Bool × Int) (fun st => 0 ≤ st.2.2.2.2 ∧ st.2.2.2.2 ≤ t ∧ st = ((Ei st.2.2.2.2 v).Travel, (Ei st.2.2.2.2 v).Open, (Ei st.2.2.2.2 v).Want, (Ei st.2.2.2.2 v).Stuck, st.2.2.2.2)) (fun st => t.toNat - st.2.2.2.2.toNat) ⟨by simp, by dsimp only; omega, ?_⟩ (by dsimp only; omega) ?_
   ·dsimp only; rw [U6 h]
   ·rintro ⟨a, b, c, d, i⟩ ⟨D, h1, he⟩
    dsimp only at D h1 he
    have hv : (⟨a, b, c, d⟩ : Valve) = Ei i v := by
     simp only [Prod.mk.injEq] at he
     obtain ⟨rfl, rfl, rfl, rfl, _⟩ := he; rfl
    have O : (Ht ⟨a, b, c, d⟩).1 = Ei (i + 1) v := by rw [hv, kQ (Wh h D), X2 h D (by omega)]
    unfold Nq.B2
    dsimp only
    refine Bb (fun M => .pure ?_) fun G => .pure ?_
    ·rw [O, Bg (by omega)]
     exact ⟨⟨by dsimp only; omega, by dsimp only; omega, rfl⟩, by dsimp only; omega⟩
    ·have : i = t := by omega
     subst this
     simp only [Prod.mk.injEq] at he
     obtain ⟨rfl, rfl, rfl, rfl, _⟩ := he
     exact rfl
  ·rintro _ rfl
   exact .pure rfl
 obtain ⟨r, h, rfl⟩ := this
 exact h
theorem mD {v : Valve} (h : VOk v) {t : Int} (M : 0 ≤ t ∧ t ≤ 400) : C0 v t = (Ei t v, 0) := by
 have h1 := h.travel; have h2 := h.opn; have G := h.free
 unfold C0
 rw [h.validP, if_neg (by simp), if_neg (by simp; omega)]
 congr 1
 unfold Qd Qd.J1 Et
 obtain ⟨a, b, c, d⟩ := v
 dsimp only at h1 h2 G ⊢
 subst G
 have D : ∀ o : Int, (if ((a == a) && ((o == b) && ((c == c) && ((false == false) && true)))) = true then (⟨a, b, c, false⟩ : Valve) else ⟨a, o, c, false⟩) = ⟨a, o, c, false⟩ := by
  intro o
  split
  ·rename_i hb
   have : o = b := by simpa using hb
   rw [this]
  ·rfl
 simp only [D]
 unfold Ei
 dsimp only
 cases c
 ·simp only [Bool.false_eq_true, if_false]
  rw [if_neg (by simp; omega), Bg (by omega)]
 ·simp only [Bool.false_eq_true, if_false, if_true]
  split
  ·rw [Bg (by omega)]
  ·rename_i hb
   have : ¬ b < a := by simpa using hb
   rw [Bg (by omega)]; congr 1; omega
theorem dX {v : Valve} (h : VOk v) : Jf v = (v.Open == v.Travel) := by unfold Jf; rw [h.valid]; rfl
theorem kE {v : Valve} (h : VOk v) : Iu v = (v.Open == v.Travel) := by unfold Iu; rw [h.validP]; rfl
theorem jL {v : Valve} (h : VOk v) : Nv v = (v.Open == 0) := by unfold Nv; rw [h.validP]; rfl
theorem mE {v : Valve} (h : VOk v) : Il v = if v.Want = true then v.Travel - v.Open else v.Open := by
 have h1 := h.travel; have h2 := h.opn; have D := h.free
 unfold Il Et
 rw [h.validP, D, if_neg (by simp), if_neg (by simp)]
 split <;> (rw [Bg (by omega), Bg (by omega)]; omega)
def VsOk (n : Network) (vs : List Valve) : Prop := vs.length = n.Segments.length + n.Ports.length ∧ ∀ v, v ∈ vs → VOk v
theorem VsOk.pass {n : Network} {vs : List Valve} (h : VsOk n vs) {t : Int} (D : 0 ≤ t) : VsOk n (vs.map (Ei t)) := by
 refine ⟨by rw [List.length_map]; exact h.1, fun v hv => ?_⟩
 obtain ⟨u, G, rfl⟩ := List.mem_map.1 hv
 exact Wh (h.2 u G) D
theorem VsOk.at {n : Network} {vs : List Valve} (h : VsOk n vs) {k : Nat} {v : Valve} (D : vs[k]? = some v) : VOk v := h.2 v (mg D)
theorem VsOk.set {n : Network} {vs : List Valve} (h : VsOk n vs) {k : Nat} {v : Valve} (hv : VOk v) : VsOk n (vs.set k v) := by
 refine ⟨by rw [List.length_set]; exact h.1, fun u G => ?_⟩
 rcases List.mem_or_eq_of_mem_set G with D | rfl
 ·exact h.2 u D
 ·exact hv
def Cx (p : Plan) : List Bool := p.Rates.map (fun r => r != 0) ++ p.Ports.map fun r => r != 0
theorem Uh {p : Plan} (h1 : p.Rates.length ≤ 1000) (h2 : p.Ports.length ≤ 1000) : Je p = some ⟨p.Rates.map (fun r => r != 0), p.Ports.map fun r => r != 0⟩ := by
 have : Ok (Je p) fun r => r = ⟨p.Rates.map (fun r => r != 0), p.Ports.map fun r => r != 0⟩ := by
  unfold Je
  refine .bind (Q := fun d => d = p.Rates.map fun r => r != 0) ?_ ?_
  ·refine .loop (S := List Bool × Int) (fun st => ∃ k : Nat, st = ((p.Rates.take k).map (fun r => r != 0), (k : Int)) ∧ k ≤ p.Rates.length) (fun st => p.Rates.length - st.2.toNat) ⟨0, rfl, by omega⟩ (by dsimp only; omega) ?_
   rintro _ ⟨k, rfl, M⟩
   unfold Je.B4
   refine Bb (fun G => ?_) fun D => .pure ?_
   ·dsimp only at G
    have hx : p.Rates[k]? = some (p.Rates[k]'(by omega)) := gq _
    generalize p.Rates[k]'(by omega) = x at hx
    refine .bind' (.eq (Bd hx) (.bind' (.app (by simp; omega) (.pure ⟨⟨k + 1, ?_, by omega⟩, ?_⟩))))
    ·rw [Bg (by dsimp only; omega), List.take_add_one, hx, List.map_append]; rfl
    ·dsimp only; rw [Bg (by omega)]; omega
   ·dsimp only at D
    show (p.Rates.take k).map _ = _
    rw [List.take_of_length_le (by omega)]
  ·rintro _ rfl
   unfold Je.J1
   refine .bind (Q := fun d => d = p.Ports.map fun r => r != 0) ?_ ?_
   ·refine .loop (S := List Bool × Int) (fun st => ∃ k : Nat, st = ((p.Ports.take k).map (fun r => r != 0), (k : Int)) ∧ k ≤ p.Ports.length) (fun st => p.Ports.length - st.2.toNat) ⟨0, rfl, by omega⟩ (by dsimp only; omega) ?_
    rintro _ ⟨k, rfl, M⟩
    unfold Je.B3
    refine Bb (fun G => ?_) fun D => .pure ?_
    ·dsimp only at G
     have hx : p.Ports[k]? = some (p.Ports[k]'(by omega)) := gq _
     generalize p.Ports[k]'(by omega) = x at hx
     refine .bind' (.eq (Bd hx) (.bind' (.app (by simp; omega) (.pure ⟨⟨k + 1, ?_, by omega⟩, ?_⟩))))
     ·rw [Bg (by dsimp only; omega), List.take_add_one, hx, List.map_append]; rfl
     ·dsimp only; rw [Bg (by omega)]; omega
    ·dsimp only at D
     show (p.Ports.take k).map _ = _
     rw [List.take_of_length_le (by omega)]
   ·rintro _ rfl
    exact .pure rfl
 obtain ⟨r, h, rfl⟩ := this
 exact h
theorem X0 {a b : List Bool} (h1 : a.length ≤ 1000) (h2 : b.length ≤ 1000) : K6 ⟨a, b⟩ = some (a ++ b) := by
 unfold K6
 dsimp only
 rw [Ex (by simp; omega)]
 show Option.bind (Da ([] ++ a) b) _ = _
 rw [Ex (by simp; omega)]; rfl
theorem Vi {a b : List Bool} (h1 : a.length ≤ 1000) (h2 : b.length ≤ 1000) : Pv ⟨a, b⟩ = some (a ++ b) := X0 h1 h2
theorem eF {l : List Int} (h : l.length ≤ 1000) : Ky l = some (l.map fun r => r != 0) := by
 have : Ok (Ky l) fun r => r = l.map fun r => r != 0 := by
  unfold Ky
  refine .bind (.forS (fun k st => st = (l.take k).map fun r => r != 0) rfl ?_ fun st h => h) ?_
  ·rintro k x _ hx rfl
   have := (gs hx).1
   unfold Ky.B2
   refine .bind' (.app (by simp; omega) (.pure ?_))
   rw [List.take_add_one, hx, List.map_append]; rfl
  ·rintro _ rfl
   exact .pure (by rw [List.take_length])
 obtain ⟨r, h, rfl⟩ := this
 exact h
theorem kF {n : Network} (hn : NetOk n) {p : Plan} (h : FlowOk n p) : M5 n p = some (⟨p.Rates.map (fun r => r != 0), p.Ports.map fun r => r != 0⟩, 0) := by
 have h1 := hn.segs1; have h2 := hn.ports1; have D := h.rl; have G := h.pl
 unfold M5
 rw [Jr hn, Hf hn h, eF (by omega), eF (by omega)]
 rfl
def Gi (vs : List Valve) (nd : List Bool) : Prop := ∀ k : Nat, nd[k]? = some true → ∃ v, vs[k]? = some v ∧ v.Open = v.Travel ∧ v.Want = true
theorem H7 {n : Network} {p : Plan} (h1 : p.Rates.length = n.Segments.length) (h2 : p.Ports.length = n.Ports.length) : (Cx p).length = n.Segments.length + n.Ports.length := by simp [Cx, h1, h2]
structure DeskOk (n : Network) (d : Desk) : Prop where
 vs : VsOk n d.Valves
 plan : PlanOk n d.Plan
 ready : Gi d.Valves (Cx d.Plan)
 fed : FedP n d.Plan
theorem eQ {n : Network} (hn : NetOk n) {vs : List Valve} (h : VsOk n vs) : Nt n vs = some 0 := by
 have h1 := hn.segs1; have h2 := hn.ports1; have hl := h.1
 have : Ok (Nt n vs) fun r => r = 0 := by
  unfold Nt Qj
  rw [Bg (by omega)]
  refine Cj (fun h => by omega) fun _ => .bind (Q := fun d : Int ⊕ Unit => d = .inr ()) ?_ ?_
  ·refine .loop (fun st : Int => 0 ≤ st ∧ st ≤ (vs.length : Int)) (fun st => vs.length - st.toNat) ⟨by omega, by omega⟩ (by omega) ?_
   rintro st ⟨D, M⟩
   obtain ⟨k, rfl⟩ := El D
   unfold Nt.B2
   refine Bb (fun G => ?_) fun _ => .pure rfl
   have hx : vs[k]? = some (vs[k]'(by omega)) := gq _
   refine .bind' (.eq (Bd hx) (Dd (fun hb => ?_) fun _ => .pure ?_))
   ·rw [(h.at hx).valid] at hb; cases hb
   ·rw [Bg (by omega)]; exact ⟨⟨by omega, by omega⟩, by omega⟩
  ·rintro _ rfl
   exact .pure rfl
 obtain ⟨r, h, rfl⟩ := this
 exact h
theorem jM {n : Network} (hn : NetOk n) {d : Desk} (h : DeskOk n d) : Mu n d = some 0 := by
 have h1 := hn.segs1; have h2 := hn.ports1; have W := h.plan.rl; have X := h.plan.pl; have hl := h.vs.1
 have Y := H7 W X
 have : Ok (Mu n d) fun r => r = 0 := by
  unfold Mu
  rw [Pa hn, eQ hn h.vs, Lp hn h.plan.flow, Uh (by omega) (by omega)]
  refine .bind' (.pure (Cj (fun h => absurd rfl h) fun _ => .bind' (.pure (Cj (fun h => absurd rfl h) fun _ => .bind' (.pure (Cj (fun h => absurd rfl h) fun _ => .bind' (.pure ?_)))))))
  rw [X0 (by simp; omega) (by simp; omega)]
  refine .bind' (.pure (.bind (Q := fun d : Int ⊕ Unit => d = .inr ()) ?_ ?_))
  ·refine .loop (fun st : Int => 0 ≤ st ∧ st ≤ ((Cx d.Plan).length : Int)) (fun st => (Cx d.Plan).length - st.toNat) ⟨by omega, by omega⟩ (by omega) ?_
   rintro st ⟨O, Z⟩
   obtain ⟨k, rfl⟩ := El O
   have M : (k : Int) < ((Cx d.Plan).length : Int) → Ok (Mu.J3 (k : Int) false) (Sum.elim (fun s : Int => (0 ≤ s ∧ s ≤ ((Cx d.Plan).length : Int)) ∧ (Cx d.Plan).length - s.toNat < (Cx d.Plan).length - ((k : Nat) : Int).toNat) fun d => d = .inr ()) := by
    intro hk
    unfold Mu.J3
    refine A9 (fun h => by cases h) fun _ => .pure ?_
    rw [Bg (by omega)]; exact ⟨⟨by omega, by omega⟩, by omega⟩
   unfold Mu.B2
   refine Bb (fun G => ?_) fun _ => .pure rfl
   have D : (k : Int) < ((Cx d.Plan).length : Int) := G
   have hx : (Cx d.Plan)[k]? = some ((Cx d.Plan)[k]'(by omega)) := gq _
   refine .bind' (.eq (Bd hx) (A9 (fun hb => ?_) fun _ => M D))
   dsimp only at hb
   obtain ⟨v, hv, a, b⟩ := h.ready k (by rw [hx, hb])
   refine .bind' (.eq (Bd hv) ?_)
   dsimp only
   rw [dX (h.vs.at hv), a, b]
   simp only [beq_self_eq_true, Bool.not_true, Bool.false_eq_true, if_false]
   exact M D
  ·rintro _ rfl
   simp only [Sum.elim_inr]
   unfold Mu.J1
   rw [dN hn h.plan.flow h.fed]
   exact .bind' (.pure (Dd (fun h => by cases h) fun _ => .pure rfl))
 obtain ⟨r, h, rfl⟩ := this
 exact h
theorem Li {s : List Valve} {g : Valve → Option Bool} (hg : ∀ (k : Nat) (x : Valve), s[k]? = some x → g x = some false) : Ng s g = some false := by
 have : Ok (Ng s g) fun r => r = false := by
  unfold Ng
  refine .bind (Q := fun r => r = -1) ?_ ?_
  ·unfold T7
   refine .bind' (.forL (fun k _ => True) (fun r => False) trivial ?_ ?_ fun _ h => h.elim)
   ·intro k x _ hx _
    unfold T7.B2
    exact .bind' (.eq (hg k x hx) (A9 (fun h => by cases h) fun _ => .pure trivial))
   ·intro _ _
    exact .pure rfl
  ·rintro _ rfl
   exact .pure rfl
 obtain ⟨r, h, rfl⟩ := this
 exact h
theorem lG {n : Network} (hn : NetOk n) {d : Desk} (h : DeskOk n d) : Na n d = some 0 := by
 have h1 := hn.segs1; have h2 := hn.ports1; have D := h.plan.rl; have G := h.plan.pl; have hl := h.vs.1
 have W := H7 D G
 have : Ok (Na n d) fun r => r = 0 := by
  unfold Na Ps
  rw [Jr hn, Bg (by omega), Li fun k x hx => by unfold Qa; rw [(h.vs.at hx).validP]; rfl]
  refine .bind' (.pure (Cj (fun h => absurd rfl h) fun _ => Cj (fun h => by omega) fun _ => .bind' (.pure ?_)))
  unfold Na.J1
  rw [Hf hn h.plan.flow, kF hn h.plan.flow]
  refine A9 (fun h => by cases h) fun _ => .bind' (.pure (Cj (fun h => absurd rfl h) fun _ => .bind' (.pure (Cj (fun h => absurd rfl h) fun _ => ?_))))
  rw [Vi (by simp; omega) (by simp; omega)]
  refine .bind' (.pure (.bind' (.forI (fun _ _ => True) (fun _ => False) trivial ?_ ?_ fun _ h => h.elim)))
  ·intro k _ M _
   have O : k < (Cx d.Plan).length := M
   unfold Na.B3 Na.J4
   have hx : (Cx d.Plan)[k]? = some ((Cx d.Plan)[k]'(by omega)) := gq _
   refine .bind' (.eq (Bd hx) (A9 (fun hb => ?_) fun _ => A9 (fun h => by cases h) fun _ => .pure trivial))
   dsimp only at hb
   obtain ⟨v, hv, a, b⟩ := h.ready k (by rw [hx, hb])
   refine .bind' (.eq (Bd hv) ?_)
   dsimp only
   unfold Qk
   rw [kE (h.vs.at hv), a, b]
   simp only [beq_self_eq_true, Bool.true_and, Bool.not_true]
   exact A9 (fun h => by cases h) fun _ => .pure trivial
  ·intro _ _
   simp only [Sum.elim_inl]
   unfold Na.J2
   rw [fL hn h.plan.flow h.fed]
   exact .bind' (.pure (A9 (fun h => by cases h) fun _ => .pure rfl))
 obtain ⟨r, h, rfl⟩ := this
 exact h
def Hk (i : Nat) : Step := ⟨1, (i : Int), 0, ⟨0, 0, [], 0⟩⟩
def Fd (i : Nat) : Step := ⟨2, (i : Int), 0, ⟨0, 0, [], 0⟩⟩
def Ij (i : Nat) : Step := ⟨3, (i : Int), 0, ⟨0, 0, [], 0⟩⟩
def E8 (i : Nat) : Step := ⟨4, (i : Int), 0, ⟨0, 0, [], 0⟩⟩
def Hw (u : Path) (v : Int) : Step := ⟨5, 0, v, ⟨u.In, u.Out, u.Hops, 0⟩⟩
def Pf (t : Int) : Step := ⟨6, 0, t, ⟨0, 0, [], 0⟩⟩
theorem Lc {p : Plan} (h1 : p.Rates.length ≤ 1000) (h2 : p.Ports.length ≤ 1000) (D : p.Pumps.length ≤ 1000) : Np p = some p := by
 unfold Np
 rw [Ex (by simp; omega), Ex (by simp; omega), Ex (by simp; omega)]; rfl
theorem eH {x : Path} (h : x.Hops.length ≤ 1000) : Nb x = some x := by
 unfold Nb; rw [Ex (by simp; omega)]; rfl
theorem T4 {n : Network} (hn : NetOk n) {d : Desk} (h : DeskOk n d) : Hq d = some d := by
 have h1 := hn.segs1; have h2 := hn.ports1; have D := hn.sts1; have G := h.plan.rl; have M := h.plan.pl; have O := h.plan.ml; have hl := h.vs.1
 unfold Hq
 rw [Ex (by simp; omega), Lc (by omega) (by omega) (by omega)]; rfl
theorem Fu {n : Network} (hn : NetOk n) {d : Desk} (h : DeskOk n d) {s : Step} (D : Pc s = true) {P : Desk × Int → Prop} (k : Ok (if (s.Kind == 1) = true then Es.J1 n d s (s.Kind == 1) else Es.J1 n d s (s.Kind == 2)) P) : Ok (Es n d s) P := by
 unfold Es
 rw [jM hn h, D]
 exact .bind' (.pure (Cj (fun h => absurd rfl h) fun _ => Dd (fun h => by cases h) fun _ => k))
theorem Hl {n : Network} {vs : List Valve} (h : VsOk n vs) {nd : List Bool} (M : Gi vs nd) {t : Int} (O : 0 ≤ t) : Gi (vs.map (Ei t)) nd := by
 intro k G
 obtain ⟨v, h1, h2, D⟩ := M k G
 refine ⟨Ei t v, by rw [List.getElem?_map, h1]; rfl, ?_, D⟩
 have := (h.at h1).opn
 unfold Ei; dsimp only; rw [if_pos D]; omega
theorem DeskOk.pass {n : Network} {d : Desk} (h : DeskOk n d) {t : Int} (D : 0 ≤ t) : DeskOk n ⟨d.Valves.map (Ei t), d.Plan⟩ :=
 ⟨h.vs.pass D, h.plan, Hl h.vs h.ready D, h.fed⟩
theorem W2 {n : Network} (hn : NetOk n) {d : Desk} (h : DeskOk n d) {t : Int} (X : 1 ≤ t ∧ t ≤ 100) : Es n d (Pf t) = some (⟨d.Valves.map (Ei t), d.Plan⟩, 0) := by
 have h1 := hn.segs1; have h2 := hn.ports1; have hl := h.vs.1
 have : Ok (Es n d (Pf t)) fun r => r = (⟨d.Valves.map (Ei t), d.Plan⟩, 0) := by
  refine Fu hn h (by rfl) (Cc (fun h => by cases h) fun _ => ?_)
  unfold Es.J1
  refine Cc (fun h => by cases h) fun _ => Cc (fun h => by cases h) fun _ => ?_
  unfold Es.J2
  refine Cc (fun h => by cases h) fun _ => Cc (fun h => by cases h) fun _ => A9 (fun hb => ?_) fun _ => ?_
  ·rw [show (Pf t).Value = t from rfl, Bool.or_eq_true, decide_eq_true_eq, decide_eq_true_eq] at hb; omega
  rw [T4 hn h]
  refine .bind' (.pure (.bind (Q := fun vs => vs = d.Valves.map (Ei t)) ?_ ?_))
  ·refine .loop (S := List Valve × Int) (fun st => ∃ k : Nat, st = ((d.Valves.take k).map (Ei t) ++ d.Valves.drop k, (k : Int)) ∧ k ≤ d.Valves.length) (fun st => d.Valves.length - st.2.toNat) ⟨0, rfl, by omega⟩ (by dsimp only; omega) ?_
   rintro _ ⟨k, rfl, W⟩
   have hlen : ((d.Valves.take k).map (Ei t) ++ d.Valves.drop k).length = d.Valves.length := by simp; omega
   unfold Es.B4
   refine Bb (fun G => ?_) fun D => .pure ?_
   ·dsimp only at G
    rw [hlen] at G
    have hx : d.Valves[k]? = some (d.Valves[k]'(by omega)) := gq _
    generalize d.Valves[k]'(by omega) = v at hx
    have hg : ((d.Valves.take k).map (Ei t) ++ d.Valves.drop k)[k]? = some v := by
     rw [List.getElem?_append_right (by simp; omega)]; simp [Nat.min_eq_left W, hx]
    refine .bind' (.eq (Bd hg) ?_)
    dsimp only
    rw [show (Pf t).Value = t from rfl, kT (h.vs.at hx) (by omega)]
    refine .bind' (.pure (.pure ⟨⟨k + 1, ?_, by omega⟩, ?_⟩))
    ·rw [Bg (by omega)]
     congr 1
     refine List.ext_getElem? fun j => ?_
     rw [Ds]
     split
     ·rename_i M
      rw [← M.1, List.getElem?_append_left (by simp; omega), List.getElem?_map, List.getElem?_take, if_pos (by omega), hx]; rfl
     ·rename_i M
      rw [hlen] at M
      by_cases O : j < k
      ·rw [List.getElem?_append_left (by simp; omega), List.getElem?_append_left (by simp; omega), List.getElem?_map, List.getElem?_map, List.getElem?_take, List.getElem?_take, if_pos O, if_pos (by omega)]
      ·have : k < j := by omega
       rw [List.getElem?_append_right (by simp; omega), List.getElem?_append_right (by simp; omega)]
       simp only [List.length_map, List.length_take, List.getElem?_drop, Nat.min_eq_left W, Nat.min_eq_left (show k + 1 ≤ d.Valves.length by omega)]
       congr 1; omega
    ·dsimp only; rw [Bg (by omega)]; omega
   ·dsimp only at D
    rw [hlen] at D
    show (d.Valves.take k).map (Ei t) ++ d.Valves.drop k = _
    rw [List.take_of_length_le (by omega), List.drop_eq_nil_of_le (by omega), List.append_nil]
  ·rintro _ rfl
   exact .pure rfl
 obtain ⟨r, h, rfl⟩ := this
 exact h
def Dc (b : Bool) (v : Valve) : Valve := ⟨v.Travel, v.Open, b, v.Stuck⟩
theorem iO {v : Valve} (h : VOk v) (b : Bool) : VOk (Dc b v) := ⟨h.travel, h.opn, h.free⟩
theorem W3 {n : Network} (hn : NetOk n) {d : Desk} (h : DeskOk n d) {i : Nat} {v : Valve} (hv : d.Valves[i]? = some v) (b : Bool) (hb : b = false → (Cx d.Plan)[i]? = some false) :
  Es n d (if b = true then Hk i else Fd i) = some (⟨d.Valves.set i (Dc b v), d.Plan⟩, 0) := by
 have h1 := hn.segs1; have h2 := hn.ports1; have hl := h.vs.1; have W := h.plan.rl; have X := h.plan.pl
 have G := (gs hv).1
 have : Ok (Es n d (if b = true then Hk i else Fd i)) fun r => r = (⟨d.Valves.set i (Dc b v), d.Plan⟩, 0) := by
  have D : ∀ s : Step, s.Index = (i : Int) → (s.Kind == 1) = b → Ok (Qe.J1 d s false) fun r => r = (⟨d.Valves.set i (Dc b v), d.Plan⟩, 0) := by
   intro s O M
   unfold Qe.J1
   rw [T4 hn h, O, M]
   refine A9 (fun h => by cases h) fun _ => .bind' (.pure (.bind' (.eq (Bd hv) (.pure ?_))))
   unfold K7
   rw [(h.vs.at hv).valid]; rfl
  cases b
  ·refine Fu hn h (by rfl) (Cc (fun h => by cases h) fun _ => ?_)
   unfold Es.J1
   refine Cc (fun _ => .bind (Q := fun r => r = (⟨d.Valves.set i (Dc false v), d.Plan⟩, 0)) ?_ (by rintro _ rfl; exact .pure rfl)) fun h => absurd rfl h
   unfold Qe
   refine A9 (fun hb => ?_) fun _ => Cc (fun _ => ?_) fun h => absurd rfl h
   ·simp [Fd] at hb; omega
   rw [Uh (by omega) (by omega)]
   refine .bind' (.pure ?_)
   rw [X0 (by simp; omega) (by simp; omega)]
   exact .bind' (.pure (.bind' (.eq (Bd (hb rfl)) (D _ rfl rfl))))
  ·refine Fu hn h (by rfl) (Cc (fun _ => ?_) fun h => absurd rfl h)
   unfold Es.J1
   refine Cc (fun _ => .bind (Q := fun r => r = (⟨d.Valves.set i (Dc true v), d.Plan⟩, 0)) ?_ (by rintro _ rfl; exact .pure rfl)) fun h => absurd rfl h
   unfold Qe
   refine A9 (fun hb => ?_) fun _ => Cc (fun h => by cases h) fun h => D _ rfl rfl
   simp [Hk] at hb; omega
 obtain ⟨r, h, rfl⟩ := this
 exact h
theorem W4 {n : Network} (hn : NetOk n) {d : Desk} (h : DeskOk n d) {i : Nat} (hi : i < n.Stations.length) (b : Bool) (hf : FedP n ⟨d.Plan.Rates, d.Plan.Ports, d.Plan.Pumps.set i b⟩) :
  Es n d (if b = true then Ij i else E8 i) = some (⟨d.Valves, ⟨d.Plan.Rates, d.Plan.Ports, d.Plan.Pumps.set i b⟩⟩, 0) := by
 have G := h.plan.ml
 have hp : PlanOk n ⟨d.Plan.Rates, d.Plan.Ports, d.Plan.Pumps.set i b⟩ := ⟨h.plan.rl, h.plan.pl, by dsimp only; rw [List.length_set]; exact G, h.plan.rng, h.plan.prt, h.plan.bal, h.plan.dir⟩
 have : Ok (Es n d (if b = true then Ij i else E8 i)) fun r => r = (⟨d.Valves, ⟨d.Plan.Rates, d.Plan.Ports, d.Plan.Pumps.set i b⟩⟩, 0) := by
  have D : ∀ s : Step, s.Index = (i : Int) → (s.Kind == 3) = b → Ok (P8 n d s) fun r => r = (⟨d.Valves, ⟨d.Plan.Rates, d.Plan.Ports, d.Plan.Pumps.set i b⟩⟩, 0) := by
   intro s O M
   unfold P8
   rw [O, M, T4 hn h]
   refine A9 (fun hb => ?_) fun _ => .bind' (.pure (.bind' (.eq (Bd (gq (by omega))) ?_)))
   ·simp at hb; omega
   dsimp only
   rw [dN hn hp.flow hf]
   exact .bind' (.pure (Dd (fun h => by cases h) fun _ => .pure rfl))
  cases b
  ·refine Fu hn h (by rfl) (Cc (fun h => by cases h) fun _ => ?_)
   unfold Es.J1
   refine Cc (fun h => by cases h) fun _ => Cc (fun h => by cases h) fun _ => ?_
   unfold Es.J2
   refine Cc (fun _ => .bind (D _ rfl rfl) (by rintro _ rfl; exact .pure rfl)) fun h => absurd rfl h
  ·refine Fu hn h (by rfl) (Cc (fun h => by cases h) fun _ => ?_)
   unfold Es.J1
   refine Cc (fun h => by cases h) fun _ => Cc (fun _ => ?_) fun h => absurd rfl h
   unfold Es.J2
   refine Cc (fun _ => .bind (D _ rfl rfl) (by rintro _ rfl; exact .pure rfl)) fun h => absurd rfl h
 obtain ⟨r, h, rfl⟩ := this
 exact h
theorem X3 {n : Network} {up : Bool} {p : Plan} (hr : Res n up p.Rates p.Ports) {x : Path} (hx : PathOk n p x) : Kx n x = some true := by
 have : Ok (Kx n x) fun r => r = true := by
  obtain ⟨i, o, p0, po, y0, y1, nd, Y, Z, e3, e4, e5, e6, e7, e8, w, e9, W, e11, e12, e13⟩ := hx
  have hil := (gs e3).1
  have hol := (gs e4).1
  have hne : i ≠ o := by rintro rfl; rw [e5] at e7; simp at e7; omega
  unfold Kx
  refine A9 (fun hb => ?_) fun _ => ?_
  ·simp [Y, Z] at hb; omega
  rw [Y]
  refine .bind' (.eq (Bd e3) (.bind (Q := fun d : Bool ⊕ Int => d = .inr (nd x.Hops.length)) ?_ ?_))
  ·refine .loop (S := Int × List Int × Int) (fun st => ∃ j : Nat, st = (nd j, (List.range (j + 1)).map nd, (j : Int)) ∧ j ≤ x.Hops.length) (fun st => x.Hops.length - st.2.2.toNat) ⟨0, by simp [e9], by omega⟩ (by dsimp only; omega) ?_
   rintro _ ⟨j, rfl, hjl⟩
   unfold Kx.B2
   refine Bb (fun D => ?_) fun X => .pure ?_
   ·dsimp only at D
    have G : x.Hops[j]? = some (x.Hops[j]'(by omega)) := gq _
    generalize x.Hops[j]'(by omega) = h at G
    obtain ⟨k, s, r, q1, q2, q3, q4⟩ := w.hop j h G
    have hkl := (gs q2).1
    refine .bind' (.eq (Bd G) ?_)
    have j4 : Ok (Kx.J4 n x (nd j, (List.range (j + 1)).map nd, (j : Int)) false) (Sum.elim (fun st : Int × List Int × Int => (∃ j : Nat, st = (nd j, (List.range (j + 1)).map nd, (j : Int)) ∧ j ≤ x.Hops.length) ∧ x.Hops.length - st.2.2.toNat < x.Hops.length - ((j : Nat) : Int).toNat) fun d => d = .inr (nd x.Hops.length)) := by
     unfold Kx.J4
     refine A9 (fun h => by cases h) fun _ => .bind' (.eq (Bd G) (.bind (Q := fun r : Int × Int => r = (nd j, nd (j + 1))) ?_ ?_))
     ·unfold Mw
      rw [q1]
      refine .bind' (.eq (Bd q2) ?_)
      rcases q4 with ⟨b, _, M, O⟩ | ⟨b, _, M, O⟩
      ·rw [b]; exact A9 (fun h => by cases h) fun _ => .pure (by dsimp only; rw [M, O])
      ·rw [b]; exact A9 (fun _ => .pure (by dsimp only; rw [M, O])) fun h => by cases h
     rintro _ rfl
     refine Cj (fun h => absurd rfl h) fun _ => .bind (Q := fun d : Bool ⊕ Unit => d = .inr ()) ?_ ?_
     ·refine .loop (fun st : Int => 0 ≤ st ∧ st ≤ (((List.range (j + 1)).map nd).length : Int)) (fun st => ((List.range (j + 1)).map nd).length - st.toNat) ⟨by omega, by omega⟩ (by simp; omega) ?_
      rintro st ⟨h0, h1⟩
      obtain ⟨m, rfl⟩ := El h0
      unfold Kx.B6
      refine Bb (fun D => ?_) fun _ => .pure rfl
      dsimp only at D
      simp only [List.length_map, List.length_range] at D h1
      have hm : ((List.range (j + 1)).map nd)[m]? = some (nd m) := by rw [List.getElem?_map, List.getElem?_range (by omega)]; rfl
      refine .bind' (.eq (Bd hm) (Cc (fun he => ?_) fun _ => .pure ?_))
      ·exact absurd he (w.mono hr (j + 1) m (by omega) (by omega)).ne
      ·rw [Bg (by omega)]
       simp only [List.length_map, List.length_range]
       exact ⟨⟨by omega, by omega⟩, by omega⟩
     ·rintro _ rfl
      simp only [Sum.elim_inr]
      unfold Kx.J5
      refine .bind' (.app (by simp; omega) ?_)
      unfold Kx.J3
      refine .pure ⟨⟨j + 1, ?_, by omega⟩, ?_⟩
      ·dsimp only
       rw [Bg (by omega), List.range_succ (n := j + 1), List.map_append]; rfl
      ·dsimp only; rw [Bg (by omega)]; omega
    refine Bb (fun h => by dsimp only at h; omega) fun _ => ?_
    dsimp only
    rw [show decide (h.Segment ≥ (n.Segments.length : Int)) = false from decide_eq_false (by omega)]
    exact j4
   ·dsimp only at X
    have : j = x.Hops.length := by omega
    subst this; rfl
  ·rintro _ rfl
   simp only [Sum.elim_inr]
   unfold Kx.J1
   rw [Z]
   exact .bind' (.eq (Bd e4) (.pure (by dsimp only; rw [W]; simp)))
 obtain ⟨r, h, rfl⟩ := this
 exact h
structure PReady (n : Network) (vs : List Valve) (u : Path) : Prop where
 hop : ∀ (h : Hop), h ∈ u.Hops → ∃ (k : Nat) (v : Valve), h.Segment = (k : Int) ∧ vs[k]? = some v ∧ v.Open = v.Travel ∧ v.Want = true
 inp : ∃ (i : Nat) (v : Valve), u.In = (i : Int) ∧ vs[n.Segments.length + i]? = some v ∧ v.Open = v.Travel ∧ v.Want = true
 out : ∃ (i : Nat) (v : Valve), u.Out = (i : Int) ∧ vs[n.Segments.length + i]? = some v ∧ v.Open = v.Travel ∧ v.Want = true
theorem iV {n : Network} (hn : NetOk n) {d : Desk} (hv : VsOk n d.Valves) {u : Path} (h : PReady n d.Valves u) (hl : u.Hops.length ≤ 1000) : Mz n d u = some true := by
 have h1 := hn.segs1; have h2 := hn.ports1; have hvl := hv.1
 obtain ⟨i, vi, X, M, Y, Z⟩ := h.inp
 obtain ⟨o, vo, b1, O, b3, b4⟩ := h.out
 have hil := (gs M).1
 have hol := (gs O).1
 have : Ok (Mz n d u) fun r => r = true := by
  unfold Mz
  rw [X, b1, Bg (by omega), Bg (by omega)]
  refine .bind (Q := fun l : List Int => l.length ≤ 1002 ∧ ∀ x, x ∈ l → ∃ (k : Nat) (v : Valve), x = (k : Int) ∧ d.Valves[k]? = some v ∧ v.Open = v.Travel ∧ v.Want = true) ?_ ?_
  ·refine .loop (S := List Int × Int) (fun st => ∃ j : Nat, st.2 = (j : Int) ∧ j ≤ u.Hops.length ∧ st.1.length = j + 2 ∧ ∀ x, x ∈ st.1 → ∃ (k : Nat) (v : Valve), x = (k : Int) ∧ d.Valves[k]? = some v ∧ v.Open = v.Travel ∧ v.Want = true) (fun st => u.Hops.length - st.2.toNat)
    ⟨0, rfl, by omega, rfl, fun x hx => ?_⟩ (by dsimp only; omega) ?_
   ·rcases List.mem_cons.1 hx with rfl | hx
    ·exact ⟨_, vi, by simp, M, Y, Z⟩
    ·have : x = (n.Segments.length : Int) + (o : Int) := by simpa using hx
     subst this
     exact ⟨_, vo, by simp, O, b3, b4⟩
   ·rintro ⟨l, _⟩ ⟨j, rfl, hj, D, hm⟩
    dsimp only at D hm
    unfold Mz.B5
    refine Bb (fun G => ?_) fun hge => .pure ⟨by dsimp only at *; omega, hm⟩
    dsimp only at G
    have hx : u.Hops[j]? = some (u.Hops[j]'(by omega)) := gq _
    generalize u.Hops[j]'(by omega) = x at hx
    refine .bind' (.eq (Bd hx) (.bind' (.app (by simp; omega) (.pure ⟨⟨j + 1, ?_, by omega, by simp; omega, fun y hy => ?_⟩, ?_⟩))))
    ·dsimp only; rw [Bg (by omega)]; omega
    ·rcases List.mem_append.1 hy with hy | hy
     ·exact hm y hy
     ·have : y = x.Segment := by simpa using hy
      subst this
      exact h.hop x (mg hx)
    ·dsimp only; rw [Bg (by omega)]; omega
  ·rintro l ⟨D, hm⟩
   unfold Mz.J1
   refine .bind (Q := fun d : Bool ⊕ Unit => d = .inr ()) ?_ ?_
   ·refine .loop (fun st : Int => 0 ≤ st ∧ st ≤ (l.length : Int)) (fun st => l.length - st.toNat) ⟨by omega, by omega⟩ (by omega) ?_
    rintro st ⟨h0, h4⟩
    obtain ⟨k, rfl⟩ := El h0
    unfold Mz.B3
    refine Bb (fun G => ?_) fun _ => .pure rfl
    have hx : l[k]? = some (l[k]'(by omega)) := gq _
    obtain ⟨m, v, c1, W, c3, c4⟩ := hm _ (mg hx)
    refine .bind' (.eq (Bd hx) ?_)
    dsimp only
    rw [c1]
    refine .bind' (.eq (Bd W) ?_)
    dsimp only
    rw [dX (hv.at W), c3, c4]
    simp only [beq_self_eq_true, Bool.not_true, Bool.false_eq_true, if_false]
    unfold Mz.J4
    refine A9 (fun h => by cases h) fun _ => .pure ?_
    rw [Bg (by omega)]; exact ⟨⟨by omega, by omega⟩, by omega⟩
   ·rintro _ rfl
    exact .pure rfl
 obtain ⟨r, h, rfl⟩ := this
 exact h
theorem PathOk.hop {n : Network} {up : Bool} {p : Plan} (hr : Res n up p.Rates p.Ports) {u : Path} (hu : PathOk n p u) {j : Nat} {h : Hop} (D : u.Hops[j]? = some h) :
  ∃ (k : Nat) (s : Segment) (r : Int), h.Segment = (k : Int) ∧ n.Segments[k]? = some s ∧ p.Rates[k]? = some r ∧ (h.Back = false ∧ 0 < r ∨ h.Back = true ∧ r < 0) ∧ (∀ v, fs k u v = Hj v h) ∧ ∀ v, C7 v k (u.Hops.take j) = 0 := by
 obtain ⟨i, o, p0, po, y0, y1, nd, e1, e2, e3, e4, e5, e6, e7, e8, w, e9, X, Y, Z, aa⟩ := hu
 obtain ⟨k, s, r, W, q2, q3, q4⟩ := w.hop j h D
 have once : ∀ (O : Nat) (y : Hop), O ≠ j → u.Hops[O]? = some y → y.Segment ≠ (k : Int) := fun O y G hy he => G (w.once hr hy D (he.trans W.symm))
 refine ⟨k, s, r, W, q2, q3, ?_, fun v => Js D W once, fun v => H8 fun y hy => ?_⟩
 ·rcases q4 with ⟨b, q, _⟩ | ⟨b, q, _⟩
  ·exact .inl ⟨b, q⟩
  ·exact .inr ⟨b, q⟩
 ·obtain ⟨m, hm⟩ := List.getElem?_of_mem hy
  have M := (gs hm).1
  rw [List.length_take] at M
  rw [List.getElem?_take] at hm
  split at hm
  ·exact once m y (by omega) hm
  ·cases hm
theorem PathOk.ends {n : Network} {p : Plan} {u : Path} (hu : PathOk n p u) : ∃ (i o : Nat) (D G : Int), u.In = (i : Int) ∧ u.Out = (o : Int) ∧ i ≠ o ∧ i < n.Ports.length ∧ o < n.Ports.length ∧ p.Ports[i]? = some D ∧ 0 < D ∧ p.Ports[o]? = some G ∧ G < 0 := by
 obtain ⟨i, o, p0, po, D, G, nd, W, e2, e3, e4, O, e6, M, e8, w, e9, X, Y, Z, aa⟩ := hu
 exact ⟨i, o, D, G, W, e2, by rintro rfl; rw [O] at M; simp at M; omega, (gs e3).1, (gs e4).1, O, e6, M, e8⟩
theorem W5 {n : Network} (hn : NetOk n) {up : Bool} {p : Plan} (hp : PlanOk n p) {l : List Path} (hd : Divided n up p l) {rs : List Int} (hs : Part l rs) {pumps : List Bool} {vs : List Valve} {i : Nat} {u : Path} {r v : Int}
  (hi : l[i]? = some u) (hr : rs[i]? = some r) (hv : v ≠ 0) (hb : 0 ≤ r + v ∧ r + v ≤ u.Rate) (hk : DeskOk n ⟨vs, Cs n l rs pumps⟩) (Z : PReady n vs u) (hf : FedP n (Cs n l (rs.set i (r + v)) pumps)) :
  Es n ⟨vs, Cs n l rs pumps⟩ (Hw u v) = some (⟨vs, Cs n l (rs.set i (r + v)) pumps⟩, 0) := by
 have h1 := hn.segs1; have h2 := hn.ports1
 have hu := hd.paths u (mg hi)
 have hus := hu.small
 have hrr := hs.rng i u r hi hr
 have X := hs.set hi hb
 have hml : pumps.length = n.Stations.length := hk.plan.ml
 have hp' := Kh hp hd X hml
 have tS : ∀ k, Ea (fs k) l (rs.set i (r + v)) = Ea (fs k) l rs + fs k u v := fun k => by rw [Uf hi hr, Wq]; omega
 have tP : ∀ k, Ea (FP k) l (rs.set i (r + v)) = Ea (FP k) l rs + FP k u v := fun k => by rw [Uf hi hr, Wr]; omega
 obtain ⟨a, o, y0, y1, ea, eo, hne, hal, hol, ya, ya0, yo, yo0⟩ := hu.ends
 have pa := Gs hd hs ya; have po := Gs hd hs yo
 have pa' := Gs hd X ya; have po' := Gs hd X yo
 have fa : FP a u v = v := by unfold FP D9 rated; dsimp only; rw [if_pos ea, if_neg (by omega)]; omega
 have fo : FP o u v = -v := by unfold FP D9 rated; dsimp only; rw [if_neg (by omega), if_pos eo]; omega
 have f0 : ∀ k, k ≠ a → k ≠ o → FP k u v = 0 := fun k O W => by unfold FP D9 rated; dsimp only; rw [if_neg (by omega), if_neg (by omega)]; rfl
 have ba := hp.prt a _ ya; have bo := hp.prt o _ yo
 rw [tP, fa] at pa'; rw [tP, fo] at po'
 have : Ok (Es n ⟨vs, Cs n l rs pumps⟩ (Hw u v)) fun z => z = (⟨vs, Cs n l (rs.set i (r + v)) pumps⟩, 0) := by
  refine Fu hn hk (by rfl) (Cc (fun h => by cases h) fun _ => ?_)
  unfold Es.J1
  refine Cc (fun h => by cases h) fun _ => Cc (fun h => by cases h) fun _ => ?_
  unfold Es.J2
  refine Cc (fun h => by cases h) fun _ => Cc (fun _ => .bind (Q := fun z => z = (⟨vs, Cs n l (rs.set i (r + v)) pumps⟩, 0)) ?_ (by rintro _ rfl; exact .pure rfl)) fun h => absurd rfl h
  unfold T9
  refine A9 (fun hb => ?_) fun _ => ?_
  ·rw [show (Hw u v).Value = v from rfl, Bool.or_eq_true, decide_eq_true_eq, decide_eq_true_eq] at hb; omega
  rw [show (Hw u v).Path = ⟨u.In, u.Out, u.Hops, 0⟩ from rfl, show (Hw u v).Value = v from rfl, eH (by dsimp only; omega)]
  refine .bind' (.pure ?_)
  dsimp only
  rw [Bg (x := 0 - v) (by omega)]
  have hval : M4 n ⟨u.In, u.Out, u.Hops, max v (0 - v)⟩ = some true := by
   have hv25 := X3 hd.res (hu.rated (r := max v (0 - v)) (by omega))
   have : Ok (M4 n ⟨u.In, u.Out, u.Hops, max v (0 - v)⟩) fun r => r = true := by
    unfold M4 M4.J1
    rw [Pa hn]
    exact .bind' (.pure (Cc (fun _ => .bind' (.eq hv25 (.pure rfl))) fun h => absurd rfl h))
   obtain ⟨z, h, rfl⟩ := this
   exact h
  rw [hval, T4 hn hk]
  refine .bind' (.pure (Dd (fun h => by cases h) fun _ => .bind' (.pure ?_)))
  rw [iV hn hk.vs (u := ⟨u.In, u.Out, u.Hops, max v (0 - v)⟩) ⟨Z.hop, Z.inp, Z.out⟩ (by dsimp only; omega)]
  refine .bind' (.pure (Dd (fun h => by cases h) fun _ => ?_))
  rw [ea, eo]
  have ga : (Cy n l rs)[a]? = some (Ea (FP a) l rs) := Du hal
  have go : (Cy n l rs)[o]? = some (Ea (FP o) l rs) := Du hol
  have gl := D3 n l rs
  refine .bind' (.eq (Bd (l := (Cs n l rs pumps).Ports) ga) ?_)
  dsimp only
  have go1 : ((Cy n l rs).set a (wr (Ea (FP a) l rs + v)))[o]? = some (Ea (FP o) l rs) := by rw [List.getElem?_set_ne hne]; exact go
  refine .bind' (.eq (Bd go1) ?_)
  dsimp only
  rw [Bg (x := Ea (FP a) l rs + v) (by omega), Bg (x := Ea (FP o) l rs - v) (by omega)]
  have hq : (((Cs n l rs pumps).Ports.set a (Ea (FP a) l rs + v)).set o (Ea (FP o) l rs - v)) = Cy n l (rs.set i (r + v)) := by
   refine List.ext_getElem? fun k => ?_
   show (((Cy n l rs).set a _).set o _)[k]? = _
   by_cases D : k < n.Ports.length
   ·rw [Du D, tP]
    by_cases W : o = k
    ·subst W; rw [List.getElem?_set_self (by simp; omega), fo]; congr 1
    ·rw [List.getElem?_set_ne W]
     by_cases O : a = k
     ·subst O; rw [List.getElem?_set_self (by omega), fa]
     ·rw [List.getElem?_set_ne O, Du D, f0 k (Ne.symm O) (Ne.symm W)]; simp
   ·rw [List.getElem?_eq_none (by simp; omega), List.getElem?_eq_none (by rw [D3]; omega)]
  rw [hq]
  refine .bind' (.eq (Bd (Du hal)) (Bb (fun h => ?_) fun _ => .bind' (.eq (Bd (Du hol)) (Bb (fun h => ?_) fun _ => .bind' (.eq (Bd (l := (Cs n l rs pumps).Ports) ga) (Bb (fun h => ?_) fun _ => .bind' (.eq (Bd (l := (Cs n l rs pumps).Ports) go) ?_)))))))
  ·dsimp only at h; rw [tP, fa] at h; omega
  ·dsimp only at h; rw [tP, fo] at h; omega
  ·dsimp only at h; omega
  dsimp only
  rw [show decide (Ea (FP o) l rs > 0) = false from decide_eq_false (by omega)]
  unfold T9.J1
  refine A9 (fun h => by cases h) fun _ => .bind (Q := fun d : (Desk × Int) ⊕ List Int => d = .inr (C5 n l (rs.set i (r + v)))) ?_ ?_
  ·refine .loop (S := List Int × Int) (fun st => ∃ j : Nat, st.2 = (j : Int) ∧ j ≤ u.Hops.length ∧ st.1.length = n.Segments.length ∧ ∀ k, k < n.Segments.length → st.1[k]? = some (Ea (fs k) l rs + C7 v k (u.Hops.take j))) (fun st => u.Hops.length - st.2.toNat)
    ⟨0, rfl, by omega, Dr n l rs, fun k hk => by show (C5 n l rs)[k]? = _; rw [Ek hk]; simp [C7]⟩ (by dsimp only; omega) ?_
   rintro ⟨st, _⟩ ⟨j, rfl, hj, hsl, Y⟩
   dsimp only at hsl Y
   unfold T9.B3
   refine Bb (fun hlt => ?_) fun hge => .pure ?_
   ·dsimp only at hlt
    have hx : u.Hops[j]? = some (u.Hops[j]'(by omega)) := gq _
    generalize u.Hops[j]'(by omega) = x at hx
    obtain ⟨k, s, y, q1, q2, q3, q4, q5, q6⟩ := hu.hop hd.res hx
    have D := (gs q2).1
    have hin := Pm hd hs q3; have G := Pm hd X q3
    have hrng := hp.rng k y s q3 q2
    rw [tS, q5] at G
    have gk : (C5 n l rs)[k]? = some (Ea (fs k) l rs) := Ek D
    have sk := Y k D
    rw [q6 v] at sk
    refine .bind' (.eq (Bd hx) ?_)
    have M : ∀ z, z = Ea (fs k) l rs + Hj v x → Sum.elim (fun st : List Int × Int => (∃ j : Nat, st.2 = (j : Int) ∧ j ≤ u.Hops.length ∧ st.1.length = n.Segments.length ∧ ∀ k, k < n.Segments.length → st.1[k]? = some (Ea (fs k) l rs + C7 v k (u.Hops.take j))) ∧ u.Hops.length - st.2.toNat < u.Hops.length - ((j : Nat) : Int).toNat)
      (fun d : (Desk × Int) ⊕ List Int => d = .inr (C5 n l (rs.set i (r + v)))) (.inl (st.set k z, wr ((j : Int) + 1))) := by
     intro z hz
     refine ⟨⟨j + 1, by dsimp only; rw [Bg (by omega)]; omega, by omega, by simp [hsl], fun k' hk' => ?_⟩, by dsimp only; rw [Bg (by omega)]; omega⟩
     dsimp only
     rw [H9 hx]
     by_cases hkk : k = k'
     ·subst hkk
      rw [List.getElem?_set_self (by omega), q6 v, if_pos q1, hz]; congr 1; omega
     ·rw [List.getElem?_set_ne hkk, Y k' hk', if_neg (by omega)]; simp
    rcases q4 with ⟨b, hy⟩ | ⟨b, hy⟩
    ·rw [show Hj v x = v by unfold Hj; rw [b]; rfl] at G M
     dsimp only
     refine A9 (fun h => by rw [b] at h; cases h) fun _ => ?_
     unfold T9.J4
     rw [q1]
     refine .bind' (.eq (Bd (l := (Cs n l rs pumps).Rates) gk) ?_)
     dsimp only
     rw [Int.one_mul, Bg (x := Ea (fs k) l rs) (by omega), show (Hw u v).Value = v from rfl, Bg (x := Ea (fs k) l rs + v) (by omega)]
     refine A9 (fun h => ?_) fun _ => .bind' (.eq (Bd sk) (.pure ?_))
     ·simp at h; omega
     dsimp only
     rw [Int.one_mul, Bg (x := Ea (fs k) l rs + v) (by omega)]
     exact M _ rfl
    ·rw [show Hj v x = -v by unfold Hj; rw [b]; rfl] at G M
     dsimp only
     refine A9 (fun _ => ?_) fun h => by rw [b] at h; cases h
     unfold T9.J4
     rw [q1]
     refine .bind' (.eq (Bd (l := (Cs n l rs pumps).Rates) gk) ?_)
     dsimp only
     rw [show (-1 : Int) * Ea (fs k) l rs = -Ea (fs k) l rs by omega, Bg (x := -Ea (fs k) l rs) (by omega), show (Hw u v).Value = v from rfl, Bg (x := -Ea (fs k) l rs + v) (by omega)]
     refine A9 (fun h => ?_) fun _ => .bind' (.eq (Bd sk) (.pure ?_))
     ·simp at h; omega
     dsimp only
     rw [show (-1 : Int) * (-Ea (fs k) l rs + v) = Ea (fs k) l rs + -v by omega, Bg (x := Ea (fs k) l rs + -v) (by omega)]
     exact M _ rfl
   ·dsimp only at hge
    have : j = u.Hops.length := by omega
    subst this
    show Sum.inr st = _
    congr 1
    refine List.ext_getElem? fun k => ?_
    by_cases D : k < n.Segments.length
    ·rw [Y k D, Ek D, tS, List.take_length]; rfl
    ·rw [List.getElem?_eq_none (by omega), List.getElem?_eq_none (by rw [Dr]; omega)]
  ·rintro _ rfl
   simp only [Sum.elim_inr]
   unfold T9.J2
   dsimp only
   rw [show (Hw u v).Value = v from rfl, Bg (x := Ea (FP a) l rs + v) (by omega), Bg (x := Ea (FP o) l rs - v) (by omega), hq]
   have e : (⟨C5 n l (rs.set i (r + v)), Cy n l (rs.set i (r + v)), (Cs n l rs pumps).Pumps⟩ : Plan) = Cs n l (rs.set i (r + v)) pumps := rfl
   rw [e, Lp hn hp'.flow, dN hn hp'.flow hf]
   exact .bind' (.pure (Cj (fun h => absurd rfl h) fun _ => .bind' (.pure (Dd (fun h => by cases h) fun _ => .pure rfl))))
 obtain ⟨z, h, rfl⟩ := this
 exact h
def E7 (t : Int) : List Step := if 0 < t then [Pf t] else []
theorem H3 (t : Int) : (E7 t).length ≤ 1 := by unfold E7; split <;> simp
theorem kH {t : Int} (G : t ≤ 100) (D : -1000 ≤ t) {l : List Step} (hl : l.length ≤ 1000000) : K3 t l = some (l ++ E7 t) := by
 have : Ok (K3 t l) fun r => r = l ++ E7 t := by
  unfold K3
  refine .bind (Q := fun r => r = l ++ E7 t) ?_ (by rintro _ rfl; exact .pure rfl)
  refine .loop (S := List Step × Int) (fun st => st = (l, t) ∨ st.1 = l ++ E7 t ∧ -1000 ≤ st.2 ∧ st.2 ≤ 0) (fun st => if st.2 ≤ 0 then 0 else 1) (.inl rfl) (by split <;> omega) ?_
  rintro st (rfl | ⟨h1, h2⟩)
  ·unfold K3.B1
   refine Bb (fun hp => ?_) fun hp => .pure ?_
   ·dsimp only at hp
    refine .bind' (.app (by simp; omega) (.pure ⟨.inr ⟨?_, ?_⟩, ?_⟩))
    ·unfold E7; rw [if_pos hp]; dsimp only; rw [show min t 100 = t by omega]; rfl
    ·dsimp only; rw [Bg (by omega)]; omega
    ·dsimp only; rw [Bg (by omega), if_pos (by omega), if_neg (by omega)]; omega
   ·dsimp only at hp
    show l = _
    unfold E7; rw [if_neg hp]; simp
  ·unfold K3.B1
   exact Bb (fun hp => by omega) fun _ => .pure h1
 obtain ⟨r, h, rfl⟩ := this
 exact h
def E3 (u : Path) (sign ramp rest : Int) (b : Int) : List Step :=
 if h : 0 < b ∧ 0 < ramp then Hw u (sign * min b ramp) :: (E7 rest ++ E3 u sign ramp rest (b - ramp)) else []
termination_by b.toNat
decreasing_by omega
theorem Ki {u : Path} {sign ramp rest b : Int} (h : 0 < b) (D : 0 < ramp) : E3 u sign ramp rest b = Hw u (sign * min b ramp) :: (E7 rest ++ E3 u sign ramp rest (b - ramp)) := by
 rw [E3, dif_pos ⟨h, D⟩]
theorem E0 {u : Path} {sign ramp rest b : Int} (h : b ≤ 0) : E3 u sign ramp rest b = [] := by
 rw [E3, dif_neg (by omega)]
theorem fT {l : List Hop} (h : l.length ≤ 1000) : K5 l = some l := by
 unfold K5; rw [Ex (by simp; omega)]; rfl
theorem mF {u : Path} (hu : u.Hops.length ≤ 5) {b sign ramp rest : Int} (G : sign = 1 ∨ sign = -1) (Y : 1 ≤ ramp ∧ ramp ≤ 1000) (Z : 0 ≤ rest ∧ rest ≤ 100) (hb : -1000 ≤ b ∧ b ≤ 1000) {out : List Step} (X : out.length ≤ 500000) :
  Jk u b sign ramp out rest = some (out ++ E3 u sign ramp rest b) := by
 have : Ok (Jk u b sign ramp out rest) fun r => r = out ++ E3 u sign ramp rest b := by
  unfold Jk
  rw [fT (by omega)]
  refine .bind' (.pure (.bind (Q := fun r => r = out ++ E3 u sign ramp rest b) ?_ (by rintro _ rfl; exact .pure rfl)))
  refine .loop (S := List Step × Int) (fun st => st.1 ++ E3 u sign ramp rest st.2 = out ++ E3 u sign ramp rest b ∧ -1000 ≤ st.2 ∧ st.2 ≤ 1000 ∧ st.1.length + 2 * st.2.toNat ≤ out.length + 2 * b.toNat) (fun st => st.2.toNat) ⟨rfl, hb.1, hb.2, Nat.le_refl _⟩ (by dsimp only; omega) ?_
  rintro ⟨l, c⟩ ⟨D, M, O, W⟩
  dsimp only at D M O W
  unfold Jk.B1
  refine Bb (fun hp => ?_) fun hp => .pure ?_
  ·dsimp only at hp
   refine .bind' (.app (by simp; omega) ?_)
   rw [kH (by omega) (by omega) (by simp; omega)]
   dsimp only
   refine .bind' (.pure (.pure ⟨⟨?_, by dsimp only; rw [Bg (x := c - ramp) (by omega)]; omega, by dsimp only; rw [Bg (x := c - ramp) (by omega)]; omega, ?_⟩, by dsimp only; rw [Bg (x := c - ramp) (by omega)]; omega⟩))
   ·dsimp only
    rw [Bg (x := c - ramp) (by omega), ← D, Ki hp (by omega)]
    have : wr (sign * min c ramp) = sign * min c ramp := Bg (by rcases G with rfl | rfl <;> omega)
    rw [this, List.append_assoc, List.append_assoc]; rfl
   ·have := H3 rest
    dsimp only; rw [Bg (x := c - ramp) (by omega)]
    simp only [List.length_append, List.length_singleton]; omega
  ·dsimp only at hp
   show l = _
   rw [← D, E0 (by omega), List.append_nil]
 obtain ⟨r, h, rfl⟩ := this
 exact h
theorem R6 {l other : List Path} (O : G0 other) (hl : l.length ≤ 1000) : K8 l other = some (l.map (mr other)) := by
 have : Ok (K8 l other) fun r => r = l.map (mr other) := by
  unfold K8
  refine .bind (.forS (fun k st => st = (l.take k).map (mr other)) rfl ?_ fun st h => h) ?_
  ·rintro k x _ hx rfl
   have W := (gs hx).1
   have M : ∀ z, z = mr other x → Ok (K8.J3 ((l.take k).map (mr other)) z) fun st => st = (l.take (k + 1)).map (mr other) := by
    rintro z rfl
    unfold K8.J3
    refine .bind' (.app (by simp; omega) (.pure ?_))
    rw [List.take_add_one, hx, List.map_append]; rfl
   unfold K8.B2
   refine .bind Sj ?_
   rintro m (⟨rfl, G⟩ | ⟨X, y, rfl, hy, D⟩)
   ·refine Bb (fun h => by omega) fun _ => M _ (O7 G).symm
   ·refine Bb (fun _ => .bind' (.eq (Bd hy) ?_)) fun h => by omega
    exact M _ (Xy O hy D).symm
  ·rintro _ rfl
   exact .pure (by rw [List.take_length])
 obtain ⟨r, h, rfl⟩ := this
 exact h
def Ii (b : List Path) : List Path → List Path
 | [] => []
 | u :: a => if 0 < mr b u then rated u (mr b u) :: Ii b a else Ii b a
theorem Ln {F : Path → Int → Int} (D : ∀ u, F u 0 = 0) (G : ∀ u v r, Alike u v → F u r = F v r) {b : List Path} : ∀ {a : List Path}, (∀ u, u ∈ a → 0 ≤ mr b u) → Ea F (Ii b a) ((Ii b a).map (·.Rate)) = Ea F a (a.map (mr b))
 | [], _ => rfl
 | u :: a, h => by
  have M := Ln D G (a := a) fun v hv => h v (by simp [hv])
  have := h u (by simp)
  simp only [Ii, List.map_cons, Ea]
  split
  ·simp only [List.map_cons, Ea, M]
   congr 1
   exact G _ _ _ ⟨rfl, rfl, rfl⟩
  ·rw [M, show mr b u = 0 by omega, D]; omega
theorem Iy (b : List Path) : ∀ (a : List Path) (u : Path), Ii b (a ++ [u]) = Ii b a ++ if 0 < mr b u then [rated u (mr b u)] else []
 | [], u => by simp only [List.nil_append, Ii]
 | v :: a, u => by
  simp only [List.cons_append, Ii, Iy b a u]
  split <;> simp
theorem Lo (b : List Path) : ∀ a : List Path, (Ii b a).length ≤ a.length
 | [] => by simp [Ii]
 | v :: a => by have := Lo b a; simp only [Ii]; split <;> simp <;> omega
theorem Ui {b : List Path} : ∀ {a : List Path} {y : Path}, y ∈ Ii b a → ∃ u, u ∈ a ∧ 0 < mr b u ∧ y = rated u (mr b u)
 | [], y, h => by simp [Ii] at h
 | v :: a, y, h => by
  simp only [Ii] at h
  split at h
  ·rename_i D
   rcases List.mem_cons.1 h with rfl | h
   ·exact ⟨v, by simp, D, rfl⟩
   ·obtain ⟨u, h1, h2⟩ := Ui h; exact ⟨u, by simp [h1], h2⟩
  ·obtain ⟨u, h1, h2⟩ := Ui h; exact ⟨u, by simp [h1], h2⟩
theorem V6 {n m : Network} {p q : Plan} {a b : List Path} (W : ∀ x, x ∈ a → PathOk n p x) (hb : ∀ x, x ∈ b → PathOk m q x) (X : a.length ≤ 1000) (G : G0 b) : M2 a b = some (Ii b a) := by
 have : Ok (M2 a b) fun r => r = Ii b a := by
  unfold M2
  refine .bind (.forS (fun k st => st = Ii b (a.take k)) rfl ?_ fun st h => h) ?_
  ·rintro k x _ hx rfl
   have Y := (gs hx).1
   have Z := (W x (mg hx)).small
   have M := Lo b (a.take k)
   rw [List.length_take] at M
   have e : Ii b (a.take (k + 1)) = Ii b (a.take k) ++ if 0 < mr b x then [rated x (mr b x)] else [] := by rw [List.take_add_one, hx]; exact Iy _ _ _
   unfold M2.B2
   refine .bind Sj ?_
   rintro m (⟨rfl, O⟩ | ⟨k', y, rfl, hy, D⟩)
   ·refine Bb (fun h => by omega) fun _ => ?_
    unfold M2.J3
    exact .pure (by rw [e, O7 O]; simp)
   ·have aa := (hb y (mg hy)).small
    refine Bb (fun _ => .bind' (.eq (Bd hy) ?_)) fun h => by omega
    dsimp only
    rw [iN (by omega)]
    refine .bind' (.pure (.bind' (.app (by simp; omega) ?_)))
    unfold M2.J3
    refine .pure ?_
    rw [e, Xy G hy D, if_pos (by omega)]; rfl
  ·rintro _ rfl
   exact .pure (by rw [List.take_length])
 obtain ⟨r, h, rfl⟩ := this
 exact h
theorem jK {n m : Network} (hn : NetOk n) {up : Bool} {p q : Plan} {a b : List Path} (hd : Divided n up p a) (hb : ∀ x, x ∈ b → PathOk m q x) (hbp : G0 b) :
  Mq n a b = some (Cs n a (a.map (mr b)) (List.replicate n.Stations.length false)) := by
 have h1 := hn.segs1; have h2 := hn.ports1; have h3 := hn.sts1; have hcl := Lo b a; have hct := hd.count
 have Z : ∀ x, x ∈ Ii b a → PathOk n p x := fun x hx => by
  obtain ⟨u, hu, G, rfl⟩ := Ui hx
  have M := hd.paths u hu
  have := Ik (l := b) (u := u) (fun y hy => (hb y hy).small.2.1) M.small.2.1
  exact M.rated (by have := M.small; omega)
 have Y : ∀ u, u ∈ a → 0 ≤ mr b u := fun u hu => (Ik (l := b) (u := u) (fun y hy => (hb y hy).small.2.1) (hd.paths u hu).small.2.1).1
 have : Ok (Mq n a b) fun r => r = Cs n a (a.map (mr b)) (List.replicate n.Stations.length false) := by
  unfold Mq
  refine .bind' (.mk n.Segments.length rfl (by omega) (.bind' (.mk n.Ports.length rfl (by omega) (.bind' (.mk n.Stations.length rfl (by omega) ?_)))))
  unfold Mq.J1
  rw [V6 hd.paths hb (by omega) hbp]
  refine .bind' (.pure (.bind (.forJ (fun j (st : List Int × List Int × List Bool) => st.1.length = n.Segments.length ∧ st.2.1.length = n.Ports.length ∧ st.2.2 = List.replicate n.Stations.length false ∧ (∀ (k : Nat) (r : Int), st.1[k]? = some r → r = Cw k ((Ii b a).take j)) ∧ ∀ (k : Nat) (r : Int), st.2.1[k]? = some r → r = Cv k ((Ii b a).take j))
   ⟨by simp, by simp, rfl, fun k r D => ?_, fun k r D => ?_⟩ ?_ fun st h => h) ?_))
  ·have := mg D; simp at this; simp [Cw]; omega
  ·have := mg D; simp at this; simp [Cv]; omega
  ·rintro j ⟨rates, ports, pu⟩ hj ⟨i1, i2, i3, O, W⟩
   dsimp only at i1 i2 i3 O W
   have hx : (Ii b a)[j]? = some ((Ii b a)[j]'(by omega)) := gq _
   generalize (Ii b a)[j]'(by omega) = x at hx
   have ht : ∀ x, x ∈ (Ii b a).take j → PathOk n p x := fun x hx => Z x (List.mem_of_mem_take hx)
   have htl : ((Ii b a).take j).length ≤ 64 := by rw [List.length_take]; omega
   unfold Mq.B3
   refine .bind' (.eq (Bd hx) (.bind (Yh hd.res (Z x (mg hx)) i1 i2 (fun k r D => by have := O k r D; have := Q7 k ht; omega) fun k r D => by have := W k r D; have := Oy k ht; omega) ?_))
   rintro q ⟨g1, g2, g3, g4, g5, g6⟩
   dsimp only at g1 g2 g3 g4 g5
   refine .pure ⟨by dsimp only; omega, by dsimp only; omega, by dsimp only; rw [g3, i3], fun k r D => ?_, fun k r D => ?_⟩
   ·dsimp only at D
    have hkl := (gs D).1
    have G : rates[k]? = some (rates[k]'(by omega)) := gq _
    have X := g4 k _ G
    have hb := O k _ G
    rw [D] at X; simp at X
    rw [V4 hx]; omega
   ·dsimp only at D
    have hkl := (gs D).1
    have G : ports[k]? = some (ports[k]'(by omega)) := gq _
    have X := g5 k _ G
    have hb := W k _ G
    rw [D] at X; simp at X
    rw [Ut hx]; omega
  ·rintro ⟨rates, ports, pu⟩ ⟨i1, i2, i3, O, W⟩
   rw [List.take_length] at O W
   dsimp only at i1 i2 i3 O W
   unfold Mq.J2
   refine .pure ?_
   unfold Cs
   subst i3
   congr 1
   ·refine List.ext_getElem? fun k => ?_
    by_cases D : k < n.Segments.length
    ·have G : rates[k]? = some (rates[k]'(by omega)) := gq _
     dsimp only
     rw [Ek D, G, O k _ G, ← Ll, Ln (Ke k) (Q1 k) Y]
    ·rw [List.getElem?_eq_none (by dsimp only; omega), List.getElem?_eq_none (by rw [Dr]; omega)]
   ·refine List.ext_getElem? fun k => ?_
    by_cases D : k < n.Ports.length
    ·have G : ports[k]? = some (ports[k]'(by omega)) := gq _
     dsimp only
     rw [Du D, G, W k _ G, ← Jq, Ln (Kf k) (Q2 k) Y]
    ·rw [List.getElem?_eq_none (by dsimp only; omega), List.getElem?_eq_none (by rw [D3]; omega)]
 obtain ⟨r, h, rfl⟩ := this
 exact h
structure Turns (vs : List Valve) (nd : List Bool) (cs os : List Nat) (most : Int) : Prop where
 tc : ∀ i, i ∈ cs → ∃ v, vs[i]? = some v ∧ nd[i]? = some false ∧ v.Open ≤ most ∧ ¬ (v.Open = 0 ∧ v.Want = false)
 to_ : ∀ i, i ∈ os → ∃ v, vs[i]? = some v ∧ nd[i]? = some true ∧ v.Travel - v.Open ≤ most ∧ ¬ (v.Open = v.Travel ∧ v.Want = true)
 shut : ∀ (i : Nat) (v : Valve), vs[i]? = some v → nd[i]? = some false → i ∉ cs → v.Open = 0 ∧ v.Want = false
 open_ : ∀ (i : Nat) (v : Valve), vs[i]? = some v → nd[i]? = some true → i ∉ os → v.Open = v.Travel ∧ v.Want = true
 rng : 0 ≤ most ∧ most ≤ 60
 len : cs.length + os.length ≤ vs.length
 none_ : cs = [] → os = [] → most = 0
theorem eT {n : Network} {d : Desk} (hv : VsOk n d.Valves) (hl : d.Valves.length ≤ 1000) {D : Int} (ht : 0 ≤ D) {nd : List Bool} (hnd : nd.length = d.Valves.length) :
  Ok (P2 d D nd) fun r => ∃ cs os most, r = (cs.map Fd ++ os.map Hk, most, true) ∧ Turns (d.Valves.map (Ei D)) nd cs os most := by
 let T : Nat → List Nat → List Nat → Int → Prop := fun k cs os most => (∀ i, i ∈ cs → ∃ v, (d.Valves.map (Ei D))[i]? = some v ∧ nd[i]? = some false ∧ v.Open ≤ most ∧ ¬ (v.Open = 0 ∧ v.Want = false)) ∧
  (∀ i, i ∈ os → ∃ v, (d.Valves.map (Ei D))[i]? = some v ∧ nd[i]? = some true ∧ v.Travel - v.Open ≤ most ∧ ¬ (v.Open = v.Travel ∧ v.Want = true)) ∧
  (∀ (i : Nat) (v : Valve), i < k → (d.Valves.map (Ei D))[i]? = some v → nd[i]? = some false → i ∉ cs → v.Open = 0 ∧ v.Want = false) ∧
  (∀ (i : Nat) (v : Valve), i < k → (d.Valves.map (Ei D))[i]? = some v → nd[i]? = some true → i ∉ os → v.Open = v.Travel ∧ v.Want = true) ∧
  (0 ≤ most ∧ most ≤ 60) ∧ cs.length + os.length ≤ k ∧ (cs = [] → os = [] → most = 0)
 unfold P2
 refine .bind' (.forL (fun k (st : List Step × List Step × Int) => ∃ cs os most, st = (cs.map Fd, os.map Hk, most) ∧ T k cs os most) (fun _ => False)
  ⟨[], [], 0, rfl, by simp, by simp, fun i v h => absurd h (Nat.not_lt_zero _), fun i v h => absurd h (Nat.not_lt_zero _), by omega, by simp, fun _ _ => rfl⟩ ?_ ?_ fun _ h => h.elim)
 ·rintro k x _ hx ⟨cs, os, most, rfl, t1, t2, t3, t4, t5, t6, t7⟩
  have hkl := (gs hx).1
  have aa := hv.at hx
  have Z := Wh aa ht
  have hwo := Z.opn; have hwt := Z.travel
  have e : C0 x (min D 60) = (Ei D x, 0) := by rw [mD aa (by omega), eP aa ht]
  have hg : (d.Valves.map (Ei D))[k]? = some (Ei D x) := by rw [List.getElem?_map, hx]; rfl
  have hn : nd[k]? = some (nd[k]'(by omega)) := gq _
  generalize nd[k]'(by omega) = W at hn
  have O : ∀ (i : Nat) (v : Valve), i < k + 1 → (d.Valves.map (Ei D))[i]? = some v → i < k ∨ i = k ∧ v = Ei D x := by
   intro i v hi G
   by_cases h : i = k
   ·subst h; rw [hg] at G; simp at G; exact .inr ⟨rfl, G.symm⟩
   ·exact .inl (by omega)
  unfold P2.B2
  rw [e]
  refine Cj (fun h => absurd rfl h) fun _ => .bind' (.eq (Bd hn) ?_)
  have j4 : ∀ (kd : Int) (X : Bool), (kd = if W = true then 1 else 2) → (X = true ↔ (Ei D x).Open = if W = true then (Ei D x).Travel else 0) →
    Ok (P2.J4 D nd k x (cs.map Fd, os.map Hk, most) (kd, X)) (Sum.elim (fun st => ∃ cs os most, st = (cs.map Fd, os.map Hk, most) ∧ T (k + 1) cs os most) fun _ => False) := by
   intro kd X hkd ac
   have j5 : ∀ z : Bool, (z = true ↔ ((Ei D x).Open = if W = true then (Ei D x).Travel else 0) ∧ (Ei D x).Want = W) →
     Ok (P2.J5 D nd k x (cs.map Fd, os.map Hk, most) (kd, X) z) (Sum.elim (fun st => ∃ cs os most, st = (cs.map Fd, os.map Hk, most) ∧ T (k + 1) cs os most) fun _ => False) := by
    intro z hz
    unfold P2.J5
    rw [e]
    refine A9 (fun hb => ?_) fun hb => .bind' (.eq (Bd hn) ?_)
    ·obtain ⟨z1, z2⟩ := hz.1 hb
     unfold P2.J3
     refine .pure ⟨cs, os, most, rfl, t1, t2, fun i v hi G M hc => ?_, fun i v hi G M hc => ?_, t5, by omega, t7⟩
     ·rcases O i v hi G with h | ⟨rfl, rfl⟩
      ·exact t3 i v h G M hc
      ·rw [hn] at M; simp at M; subst M; exact ⟨by simpa using z1, z2⟩
     ·rcases O i v hi G with h | ⟨rfl, rfl⟩
      ·exact t4 i v h G M hc
      ·rw [hn] at M; simp at M; subst M; exact ⟨by simpa using z1, z2⟩
    ·have ab : ¬ (((Ei D x).Open = if W = true then (Ei D x).Travel else 0) ∧ (Ei D x).Want = W) := fun h => by have := hz.2 h; rw [hb] at this; cases this
     dsimp only
     rw [mE (v := ⟨(Ei D x).Travel, (Ei D x).Open, W, (Ei D x).Stuck⟩) ⟨Z.travel, Z.opn, Z.free⟩]
     dsimp only
     refine Bb (fun h => by split at h <;> omega) fun _ => ?_
     subst hkd
     cases W
     ·refine A9 (fun h => by cases h) fun _ => .bind' (.app (by simp; omega) ?_)
      unfold P2.J3
      refine .pure ⟨cs ++ [k], os, max most (Ei D x).Open, by simp [Fd], fun i hi => ?_, fun i hi => ?_, fun i v hi G M hc => ?_, fun i v hi G M hc => ?_, by omega, by simp; omega, fun h => by simp at h⟩
      ·rcases List.mem_append.1 hi with hi | hi
       ·obtain ⟨v, a, b, c, Y⟩ := t1 i hi; exact ⟨v, a, b, by omega, Y⟩
       ·have : i = k := by simpa using hi
        subst this; exact ⟨_, hg, hn, by omega, fun h => ab ⟨by simpa using h.1, h.2⟩⟩
      ·obtain ⟨v, a, b, c, Y⟩ := t2 i hi; exact ⟨v, a, b, by omega, Y⟩
      ·rcases O i v hi G with h | ⟨rfl, rfl⟩
       ·exact t3 i v h G M fun h' => hc (by simp [h'])
       ·exact absurd (by simp) hc
      ·rcases O i v hi G with h | ⟨rfl, rfl⟩
       ·exact t4 i v h G M hc
       ·rw [hn] at M; cases M
     ·refine A9 (fun _ => .bind' (.app (by simp; omega) ?_)) fun h => by cases h
      unfold P2.J3
      refine .pure ⟨cs, os ++ [k], max most ((Ei D x).Travel - (Ei D x).Open), by simp [Hk], fun i hi => ?_, fun i hi => ?_, fun i v hi G M hc => ?_, fun i v hi G M hc => ?_, by omega, by simp; omega, fun _ h => by simp at h⟩
      ·obtain ⟨v, a, b, c, Y⟩ := t1 i hi; exact ⟨v, a, b, by omega, Y⟩
      ·rcases List.mem_append.1 hi with hi | hi
       ·obtain ⟨v, a, b, c, Y⟩ := t2 i hi; exact ⟨v, a, b, by omega, Y⟩
       ·have : i = k := by simpa using hi
        subst this; exact ⟨_, hg, hn, by omega, fun h => ab ⟨by simpa using h.1, h.2⟩⟩
      ·rcases O i v hi G with h | ⟨rfl, rfl⟩
       ·exact t3 i v h G M hc
       ·rw [hn] at M; cases M
      ·rcases O i v hi G with h | ⟨rfl, rfl⟩
       ·exact t4 i v h G M fun h' => hc (by simp [h'])
       ·exact absurd (by simp) hc
   unfold P2.J4
   refine A9 (fun hb => .bind' (.eq (Bd hn) ?_)) fun hb => j5 _ ?_
   ·rw [e]
    refine j5 _ ?_
    dsimp only at hb ⊢
    rw [← ac]
    constructor
    ·intro h; exact ⟨hb, by simpa using h⟩
    ·intro h; simpa using h.2
   ·dsimp only at hb
    constructor
    ·intro h; cases h
    ·rintro ⟨h, _⟩
     have := ac.2 h
     rw [hb] at this; cases this
  dsimp only
  cases W
  ·refine A9 (fun h => by cases h) fun _ => j4 2 _ rfl ?_
   rw [jL Z]; simp
  ·refine A9 (fun _ => j4 1 _ rfl ?_) fun h => by cases h
   rw [kE Z]; simp
 ·rintro _ ⟨cs, os, most, rfl, t1, t2, t3, t4, t5, t6, t7⟩
  simp only [Sum.elim_inl]
  unfold P2.J1
  refine .bind' (.app (by simp; omega) (.pure ⟨cs, os, most, rfl, t1, t2, fun i v G M hc => ?_, fun i v G M hc => ?_, t5, by rw [List.length_map]; exact t6, t7⟩))
  ·exact t3 i v (by have := (gs G).1; simpa using this) G M hc
  ·exact t4 i v (by have := (gs G).1; simpa using this) G M hc
def Co (b : Bool) (is : List Nat) (m : List Bool) : List Bool := is.foldl (fun m i => m.set i b) m
theorem He (b : Bool) : ∀ (is : List Nat) (m : List Bool), (Co b is m).length = m.length
 | [], m => rfl
 | i :: is, m => by show (Co b is (m.set i b)).length = _; rw [He b is]; simp
theorem Ks (b : Bool) (is D : List Nat) (m : List Bool) : Co b (is ++ D) m = Co b D (Co b is m) := by unfold Co; rw [List.foldl_append]
theorem N0 (b : Bool) : ∀ {is : List Nat} {m : List Bool} {i : Nat}, (Co b is m)[i]? = if i ∈ is ∧ i < m.length then some b else m[i]?
 | [], m, i => by simp [Co]
 | j :: is, m, i => by
  show (Co b is (m.set j b))[i]? = _
  rw [N0 b (is := is)]
  simp only [List.length_set, List.mem_cons]
  by_cases hi : i < m.length
  ·by_cases h1 : i ∈ is
   ·rw [if_pos ⟨h1, hi⟩, if_pos ⟨.inr h1, hi⟩]
   ·rw [if_neg fun h => h1 h.1]
    by_cases h2 : i = j
    ·subst h2; rw [List.getElem?_set_self hi, if_pos ⟨.inl rfl, hi⟩]
    ·rw [List.getElem?_set_ne (Ne.symm h2), if_neg]
     rintro ⟨h | h, _⟩
     ·exact h2 h
     ·exact h1 h
  ·rw [if_neg fun h => hi h.2, if_neg fun h => hi h.2, List.getElem?_eq_none (by simp; omega), List.getElem?_eq_none (by omega)]
structure Stops (m0 tp : List Bool) (Cm : Nat → Prop) (sp : List Nat) : Prop where
 idx : ∀ i, i ∈ sp → i < m0.length ∧ m0[i]? = some true ∧ ¬ (tp[i]? = some true ∧ Cm i)
 keep : ∀ i : Nat, (Co false sp m0)[i]? = some true → m0[i]? = some true ∧ tp[i]? = some true ∧ Cm i
 len : sp.length ≤ m0.length
structure Starts (m tp : List Bool) (ss : List Nat) : Prop where
 idx : ∀ i, i ∈ ss → i < tp.length ∧ m[i]? = some false ∧ tp[i]? = some true
 all : ∀ i : Nat, tp[i]? = some true → m[i]? = some false → i ∈ ss
 len : ss.length ≤ tp.length
def Ey (n : Network) (c : Plan) (i : Nat) : Prop := ∀ st, n.Stations[i]? = some st → E4 n c.Rates c.Ports st.Node
theorem eZ {n : Network} (hn : NetOk n) {to c : Plan} (hc : FlowOk n c) {m0 : List Bool} (hm : m0.length = n.Stations.length) (O : to.Pumps.length = n.Stations.length) :
  Ok (forJ (Fe.B11 n to c) 0 m0.length ([], m0)) fun st => ∃ sp : List Nat, st = (sp.map E8, Co false sp m0) ∧ Stops m0 to.Pumps (Ey n c) sp := by
 have h3 := hn.sts1
 refine .forJ (fun k st => ∃ sp : List Nat, st = (sp.map E8, Co false sp m0) ∧ (∀ i, i ∈ sp → i < k ∧ i < m0.length ∧ m0[i]? = some true ∧ ¬ (to.Pumps[i]? = some true ∧ Ey n c i)) ∧ (∀ i : Nat, i < k → (Co false sp m0)[i]? = some true → m0[i]? = some true ∧ to.Pumps[i]? = some true ∧ Ey n c i) ∧ sp.length ≤ k)
  ⟨[], rfl, by simp, fun i h => absurd h (Nat.not_lt_zero _), by simp⟩ ?_ ?_
 ·rintro k _ hk ⟨sp, rfl, X, Z, i3⟩
  have hs : n.Stations[k]? = some (n.Stations[k]'(by omega)) := gq _
  have hx : m0[k]? = some (m0[k]'(by omega)) := gq _
  have O : to.Pumps[k]? = some (to.Pumps[k]'(by omega)) := gq _
  generalize m0[k]'(by omega) = x at hx
  generalize to.Pumps[k]'(by omega) = y at O
  have hg : (Co false sp m0)[k]? = some x := by rw [N0, if_neg, hx]; rintro ⟨h, _⟩; exact absurd (X k h).1 (Nat.lt_irrefl k)
  have Y : x = true → ¬ (y = true ∧ Ey n c k) → Ok (Fe.J13 k (sp.map E8, Co false sp m0) (k, x) true) fun st => ∃ sp : List Nat, st = (sp.map E8, Co false sp m0) ∧ (∀ i, i ∈ sp → i < k + 1 ∧ i < m0.length ∧ m0[i]? = some true ∧ ¬ (to.Pumps[i]? = some true ∧ Ey n c i)) ∧ (∀ i : Nat, i < k + 1 → (Co false sp m0)[i]? = some true → m0[i]? = some true ∧ to.Pumps[i]? = some true ∧ Ey n c i) ∧ sp.length ≤ k + 1 := by
   intro hxt aa
   unfold Fe.J13 Fe.J12
   refine A9 (fun _ => .bind' (.app (by simp; omega) (.pure ⟨sp ++ [k], ?_, fun i hi => ?_, fun i hi D => ?_, by simp; omega⟩))) fun h => by cases h
   ·rw [Ks]; simp [E8, Co]
   ·rcases List.mem_append.1 hi with hi | hi
    ·obtain ⟨a, b⟩ := X i hi; exact ⟨by omega, b⟩
    ·have : i = k := by simpa using hi
     subst this
     exact ⟨by omega, hk, by rw [hx, hxt], fun h => aa ⟨by rw [O] at h; simpa using h.1, h.2⟩⟩
   ·rw [Ks] at D
    rw [show Co false [k] (Co false sp m0) = (Co false sp m0).set k false from rfl] at D
    by_cases G : k = i
    ·subst G; rw [List.getElem?_set_self (by rw [He]; exact hk)] at D; cases D
    ·rw [List.getElem?_set_ne G] at D; exact Z i (by omega) D
  have no : (x = true → y = true ∧ Ey n c k) → Ok (Fe.J13 k (sp.map E8, Co false sp m0) (k, x) false) fun st => ∃ sp : List Nat, st = (sp.map E8, Co false sp m0) ∧ (∀ i, i ∈ sp → i < k + 1 ∧ i < m0.length ∧ m0[i]? = some true ∧ ¬ (to.Pumps[i]? = some true ∧ Ey n c i)) ∧ (∀ i : Nat, i < k + 1 → (Co false sp m0)[i]? = some true → m0[i]? = some true ∧ to.Pumps[i]? = some true ∧ Ey n c i) ∧ sp.length ≤ k + 1 := by
   intro W
   unfold Fe.J13 Fe.J12
   refine A9 (fun h => by cases h) fun _ => .pure ⟨sp, rfl, fun i hi => ?_, fun i hi D => ?_, by omega⟩
   ·obtain ⟨a, b⟩ := X i hi; exact ⟨by omega, b⟩
   ·by_cases G : i = k
    ·subst G
     rw [hg] at D; simp at D; subst D
     obtain ⟨a, b⟩ := W rfl
     exact ⟨hx, by rw [O, a], b⟩
    ·exact Z i (by omega) D
  unfold Fe.B11
  refine .bind' (.eq (Bd hg) (A9 (fun hb => ?_) fun hb => no fun h => by dsimp only at hb; rw [h] at hb; cases hb))
  dsimp only at hb
  refine .bind' (.eq (Bd O) (Dd (fun hy => ?_) fun hy => ?_))
  ·dsimp only at hy
   exact Y hb fun h => by rw [hy] at h; exact absurd h.1 (by simp)
  ·dsimp only at hy
   refine .bind (Su hn hc hs) fun r hr => ?_
   cases r
   ·refine Y hb fun h => ?_
    have := hr.2 (h.2 _ hs); cases this
   ·refine no fun _ => ⟨hy, fun st M => ?_⟩
    rw [hs] at M; simp at M; subst M
    exact hr.1 rfl
 ·rintro _ ⟨sp, rfl, X, Z, i3⟩
  exact ⟨sp, rfl, fun i hi => (X i hi).2, fun i h => Z i (by have := (gs h).1; rw [He] at this; exact this) h, i3⟩
theorem Yw {to : Plan} {l Z : List Step} {m : List Bool} (hl : l.length ≤ 1000000) (ht : to.Pumps.length ≤ 1000) (hm : m.length = to.Pumps.length) :
  Ok (forS (Fe.B6 (Z, m)) 0 to.Pumps l) fun st => ∃ ss : List Nat, st = l ++ ss.map Ij ∧ Starts m to.Pumps ss := by
 refine .forS (fun k st => ∃ ss : List Nat, st = l ++ ss.map Ij ∧ (∀ i, i ∈ ss → i < k ∧ i < to.Pumps.length ∧ m[i]? = some false ∧ to.Pumps[i]? = some true) ∧ (∀ i : Nat, i < k → to.Pumps[i]? = some true → m[i]? = some false → i ∈ ss) ∧ ss.length ≤ k)
  ⟨[], by simp, by simp, fun i h => absurd h (Nat.not_lt_zero _), by simp⟩ ?_ ?_
 ·rintro k x _ hx ⟨ss, rfl, G, M, X⟩
  have O := (gs hx).1
  have hg : m[k]? = some (m[k]'(by omega)) := gq _
  generalize m[k]'(by omega) = y at hg
  have Y : ∀ z : Bool, (z = true ↔ x = true ∧ y = false) → Ok (Fe.J8 k (l ++ ss.map Ij) z) fun st => ∃ ss : List Nat, st = l ++ ss.map Ij ∧ (∀ i, i ∈ ss → i < k + 1 ∧ i < to.Pumps.length ∧ m[i]? = some false ∧ to.Pumps[i]? = some true) ∧ (∀ i : Nat, i < k + 1 → to.Pumps[i]? = some true → m[i]? = some false → i ∈ ss) ∧ ss.length ≤ k + 1 := by
   intro z W
   unfold Fe.J8 Fe.J7
   refine A9 (fun hb => .bind' (.app (by simp; omega) (.pure ⟨ss ++ [k], by simp [Ij], fun i hi => ?_, fun i hi h1 h2 => ?_, by simp; omega⟩))) fun hb => .pure ⟨ss, rfl, fun i hi => ?_, fun i hi h1 h2 => ?_, by omega⟩
   ·rcases List.mem_append.1 hi with hi | hi
    ·obtain ⟨a, b⟩ := G i hi; exact ⟨by omega, b⟩
    ·have : i = k := by simpa using hi
     subst this
     obtain ⟨a, b⟩ := W.1 hb
     exact ⟨by omega, O, by rw [hg, b], by rw [hx, a]⟩
   ·by_cases D : i = k
    ·subst D; simp
    ·exact List.mem_append_left _ (M i (by omega) h1 h2)
   ·obtain ⟨a, b⟩ := G i hi; exact ⟨by omega, b⟩
   ·by_cases D : i = k
    ·subst D
     rw [hx] at h1; rw [hg] at h2; simp at h1 h2
     have := W.2 ⟨h1, h2⟩; rw [hb] at this; cases this
    ·exact M i (by omega) h1 h2
  unfold Fe.B6
  refine A9 (fun hb => .bind' (.eq (Bd hg) (Y _ ?_))) fun hb => Y _ ?_
  ·dsimp only; rw [hb]; simp
  ·rw [hb]; simp
 ·rintro _ ⟨ss, rfl, G, M, X⟩
  exact ⟨ss, rfl, fun i hi => (G i hi).2, fun i h1 h2 => M i (gs h1).1 h1 h2, X⟩
def tk (s : Step) : Int := if ((s.Kind == 6) && (decide (s.Value ≥ 1) && decide (s.Value ≤ 100))) = true then s.Value else 0
def Jb : List Step → Int
 | [] => 0
 | s :: l => tk s + Jb l
theorem Hd : ∀ l m : List Step, Jb (l ++ m) = Jb l + Jb m
 | [], m => by simp [Jb]
 | s :: l, m => by simp only [List.cons_append, Jb, Hd l m]; omega
theorem dT (s : Step) : 0 ≤ tk s ∧ tk s ≤ 100 := by
 unfold tk
 split
 ·rename_i h; simp at h; omega
 ·omega
theorem F0 : ∀ l : List Step, 0 ≤ Jb l ∧ Jb l ≤ 100 * (l.length : Int)
 | [] => by simp [Jb]
 | s :: l => by have := dT s; have := F0 l; simp only [Jb, List.length_cons]; omega
theorem eV {l : List Step} (hl : l.length ≤ 1000000) : Nd l = some (Jb l) := by
 have : Ok (Nd l) fun r => r = Jb l := by
  unfold Nd
  refine .bind (.forS (fun k st => st = Jb (l.take k)) rfl ?_ fun st h => h) ?_
  ·rintro k s _ D rfl
   have := (gs D).1
   have h1 := F0 (l.take k)
   rw [List.length_take] at h1
   have e : Jb (l.take (k + 1)) = Jb (l.take k) + tk s := by rw [List.take_add_one, D, Hd]; simp [Jb]
   unfold Nd.B2 Nd.J3
   refine A9 (fun hb => .pure ?_) fun hb => .pure ?_
   ·have := dT s
    rw [e]
    unfold tk at *
    rw [if_pos hb] at *
    rw [Bg (by omega)]
   ·rw [e]; unfold tk; rw [hb]; simp
  ·rintro _ rfl
   exact .pure (by rw [List.take_length])
 obtain ⟨r, h, rfl⟩ := this
 exact h
theorem Sl {u : Path} {sign ramp rest : Int} (D : 1 ≤ ramp) : ∀ (m : Nat) (b : Int), b.toNat ≤ m → (E3 u sign ramp rest b).length ≤ 2 * m
 | 0, b, h => by rw [E0 (by omega)]; simp
 | m + 1, b, h => by
  by_cases hb : 0 < b
  ·rw [Ki hb (by omega)]
   have := Sl (u := u) (sign := sign) (rest := rest) D m (b - ramp) (by omega)
   have := H3 rest
   simp only [List.length_cons, List.length_append]; omega
  ·rw [E0 (by omega)]; simp
def Cu (sign ramp rest : Int) (l other : List Path) : List Step := l.flatMap fun u => E3 u sign ramp rest (u.Rate - mr other u)
theorem Gw {n : Network} {p : Plan} {sign ramp rest : Int} (G : 1 ≤ ramp) {other : List Path} (D : ∀ y, y ∈ other → 1 ≤ y.Rate) : ∀ {l : List Path}, (∀ x, x ∈ l → PathOk n p x) → (Cu sign ramp rest l other).length ≤ 2000 * l.length
 | [], _ => by simp [Cu]
 | u :: l, h => by
  have M := (h u (by simp)).small
  have hm := Ik (l := other) (u := u) D M.2.1
  have a := Sl (u := u) (sign := sign) (rest := rest) G 1000 (u.Rate - mr other u) (by omega)
  have b := Gw (sign := sign) (rest := rest) G D (l := l) fun x hx => h x (by simp [hx])
  unfold Cu at b ⊢
  rw [List.flatMap_cons, List.length_append, List.length_cons]; omega
theorem Sn {n m : Network} {p q : Plan} {sign ramp rest : Int} (hs : sign = 1 ∨ sign = -1) (hr : 1 ≤ ramp ∧ ramp ≤ 1000) (ht : 0 ≤ rest ∧ rest ≤ 100) {l other : List Path} (hl : ∀ x, x ∈ l → PathOk n p x) (Y : ∀ x, x ∈ other → PathOk m q x) (hlen : l.length ≤ 14)
  {out : List Step} (Z : out.length ≤ 100000) {f : Nat → List Step → Option (List Step)}
  (hf : ∀ k st, f k st = Option.bind (ix (l.map (mr other)) (k : Int)) fun G => Option.bind (ix l (k : Int)) fun D => Option.bind (Jk D.2 (wr (D.2.Rate - G.2)) sign ramp st rest) fun M => some M) :
  forJ f 0 (l.map (mr other)).length out = some (out ++ Cu sign ramp rest l other) := by
 have : Ok (forJ f 0 (l.map (mr other)).length out) fun r => r = out ++ Cu sign ramp rest l other := by
  rw [List.length_map]
  refine .forJ (fun k st => st = out ++ Cu sign ramp rest (l.take k) other) (by simp [Cu]) ?_ fun st h => by rw [h, List.take_length]
  rintro k _ X rfl
  have hx : l[k]? = some (l[k]'X) := gq _
  generalize l[k]'X = x at hx
  have W := (hl x (mg hx)).small
  have hm := Ik (l := other) (u := x) (fun y hy => (Y y hy).small.2.1) W.2.1
  have hg : (l.map (mr other))[k]? = some (mr other x) := by rw [List.getElem?_map, hx]; rfl
  have O := Gw (sign := sign) (rest := rest) hr.1 (fun y hy => (Y y hy).small.2.1) (l := l.take k) fun y hy => hl y (List.mem_of_mem_take hy)
  rw [List.length_take] at O
  rw [hf]
  refine .bind' (.eq (Bd hg) (.bind' (.eq (Bd hx) ?_)))
  dsimp only
  rw [Bg (by omega), mF (by omega) hs hr ht (by omega) (by simp; omega)]
  refine .bind' (.pure (.pure ?_))
  unfold Cu
  rw [List.take_add_one, hx, List.flatMap_append, List.append_assoc]; simp
 obtain ⟨r, h, rfl⟩ := this
 exact h
structure Comp (n : Network) (d : Desk) (to : Plan) (ramp rest : Int) (a b : List Path) (sp cs os : List Nat) (most : Int) (ss : List Nat) : Prop where
 da : G3 n d.Plan = some (a, 0)
 db : G3 n to = some (b, 0)
 pa : ∃ up, Divided n up d.Plan a
 pb : ∃ up, Divided n up to b
 hsp : Stops d.Plan.Pumps to.Pumps (Ey n (Cs n a (a.map (mr b)) (List.replicate n.Stations.length false))) sp
 tn : Turns (d.Valves.map (Ei (Jb (sp.map E8 ++ Cu (-1) ramp rest a b)))) (Cx to) cs os most
 hss : Starts (Co false sp d.Plan.Pumps) to.Pumps ss
def Gz (ramp rest : Int) (a b : List Path) (sp cs os : List Nat) (most : Int) (ss : List Nat) : List Step :=
 (((sp.map E8 ++ Cu (-1) ramp rest a b) ++ (cs.map Fd ++ os.map Hk)) ++ E7 most) ++ Cu 1 ramp rest b a ++ ss.map Ij
theorem Rh {n : Network} (hn : NetOk n) {d : Desk} (hd : DeskOk n d) {to : Plan} (W : PlanOk n to) (hf : FedP n to) {ramp rest : Int} (Y : 1 ≤ ramp ∧ ramp ≤ 1000) (hs : 0 ≤ rest ∧ rest ≤ 100) :
  Ok (Fe n d to ramp rest) fun r => ∃ a b sp cs os most ss, Comp n d to ramp rest a b sp cs os most ss ∧ r = if (Gz ramp rest a b sp cs os most ss).length > 400 then ([], 4) else (Gz ramp rest a b sp cs os most ss, 0) := by
 have h1 := hn.segs1; have h2 := hn.ports1; have h3 := hn.sts1; have hvl := hd.vs.1; have ad := hd.plan.ml; have ag := W.ml; have ah := W.rl; have htp := W.pl
 obtain ⟨⟨a, _⟩, ea, rfl, ai, D⟩ := Kj hn hd.plan
 obtain ⟨⟨b, _⟩, eb, rfl, aj, hb⟩ := Kj hn W
 dsimp only at D hb
 have O : Part a (a.map (mr b)) := .common D.paths hb.paths
 have ac := (Kh hd.plan D O (pumps := List.replicate n.Stations.length false) (by simp)).flow
 have aa := D.count; have ab := hb.count
 unfold Fe Ub
 rw [lG hn hd, Hf hn W.flow, ea, eb]
 refine .bind' (.bind' (.pure (Cj (fun h => absurd rfl h) fun _ => .bind' (.pure (Cj (fun h => absurd rfl h) fun _ => A9 (fun h => ?_) fun _ => .pure (Cj (fun h => absurd rfl h) fun _ => ?_))))))
 ·simp at h; omega
 refine .bind' (.pure (Cj (fun h => absurd rfl h) fun _ => .bind' (.pure (Cj (fun h => absurd rfl h) fun _ => ?_))))
 refine .bind' (.forL (fun _ _ => True) (fun _ => False) trivial ?_ ?_ fun _ h => h.elim)
 ·intro k x _ hx _
  have hkl := (gs hx).1
  have Z : n.Stations[k]? = some (n.Stations[k]'(by omega)) := gq _
  unfold Fe.B14 Fe.J15
  refine A9 (fun hb => .bind (Su hn W.flow Z) fun r Y => ?_) fun _ => A9 (fun h => by cases h) fun _ => .pure trivial
  have := Y.2 (hf k _ Z (by rw [hx, hb]))
  subst this
  exact A9 (fun h => by cases h) fun _ => .pure trivial
 intro _ _
 simp only [Sum.elim_inl]
 unfold Fe.J1
 rw [kF hn W.flow, jK hn D hb.paths hb.apt]
 have G : P5 d.Plan.Pumps = some d.Plan.Pumps := by unfold P5; rw [Ex (by simp; omega)]; rfl
 rw [G]
 refine .bind' (.pure (Cj (fun h => absurd rfl h) fun _ => .bind' (.pure (.bind' (.pure (.bind (eZ hn ac ad ag) ?_))))))
 rintro _ ⟨sp, rfl, hsp⟩
 have hspl := hsp.len
 have fa := Gw (sign := -1) (rest := rest) Y.1 (fun y hy => (hb.paths y hy).small.2.1) D.paths
 have fb := Gw (sign := 1) (rest := rest) Y.1 (fun y hy => (D.paths y hy).small.2.1) hb.paths
 unfold Fe.J2
 dsimp only
 rw [R6 hb.apt (by omega)]
 refine .bind' (.pure ?_)
 rw [Sn (f := Fe.B10 ramp rest (a, 0) (a.map (mr b))) (.inr rfl) Y hs D.paths hb.paths aa (by simp; omega) fun k st => rfl]
 refine .bind' (.pure ?_)
 unfold Fe.J3
 have M : (sp.map E8 ++ Cu (-1) ramp rest a b).length ≤ 50000 := by simp; omega
 have ae := F0 (sp.map E8 ++ Cu (-1) ramp rest a b)
 rw [eV (by omega), Vi (by simp; omega) (by simp; omega)]
 refine .bind' (.pure (.bind' (.pure (.bind (eT hd.vs (by omega) ae.1 (by simp; omega)) ?_))))
 rintro _ ⟨cs, os, most, rfl, X⟩
 have af := X.len; have ah := X.rng
 rw [List.length_map] at af
 refine Dd (fun h => by cases h) fun _ => .bind' (.app (by simp at M ⊢; omega) ?_)
 dsimp only
 rw [kH (by omega) (by omega) (by simp at M ⊢; omega), R6 D.apt (by omega)]
 refine .bind' (.pure (.bind' (.pure ?_)))
 have hw := H3 most
 rw [Sn (f := Fe.B9 ramp rest (b, 0) (b.map (mr a))) (.inl rfl) Y hs hb.paths D.paths ab (by simp at M ⊢; omega) fun k st => rfl]
 refine .bind' (.pure ?_)
 unfold Fe.J4
 refine .bind (Yw (by simp at M ⊢; omega) (by omega) (by rw [He]; omega)) ?_
 rintro _ ⟨ss, rfl, hss⟩
 unfold Fe.J5
 have hc : Comp n d to ramp rest a b sp cs os most ss := ⟨ea, eb, ⟨ai, D⟩, ⟨aj, hb⟩, hsp, X, hss⟩
 refine Bb (fun h => .pure ⟨a, b, sp, cs, os, most, ss, hc, ?_⟩) fun h => .pure ⟨a, b, sp, cs, os, most, ss, hc, ?_⟩
 ·rw [if_pos]; unfold Gz; omega
 ·rw [if_neg]
  ·rfl
  ·unfold Gz; omega
def Runs (n : Network) (Q : Desk → Prop) : Desk → List Step → Desk → Prop
 | d, [], e => d = e
 | d, s :: l, e => ∃ f, Es n d s = some (f, 0) ∧ Q f ∧ Runs n Q f l e
theorem Runs.append {n : Network} {Q : Desk → Prop} : ∀ {l m : List Step} {d e f : Desk}, Runs n Q d l e → Runs n Q e m f → Runs n Q d (l ++ m) f
 | [], m, d, e, f, h, k => by cases h; exact k
 | s :: l, m, d, e, f, ⟨g, h1, h2, h3⟩, k => ⟨g, h1, h2, Runs.append h3 k⟩
theorem Runs.one {n : Network} {Q : Desk → Prop} {d e : Desk} {s : Step} (h : Es n d s = some (e, 0)) (q : Q e) : Runs n Q d [s] e := ⟨e, h, q, rfl⟩
theorem fG {p : Plan} {k : Nat} (h : (Cx p)[k]? = some true) : (∃ r, p.Rates[k]? = some r ∧ r ≠ 0) ∨ (p.Rates.length ≤ k ∧ ∃ x, p.Ports[k - p.Rates.length]? = some x ∧ x ≠ 0) := by
 unfold Cx at h
 rw [List.getElem?_append] at h
 split at h
 ·rename_i D
  rw [List.getElem?_map] at h
  cases hr : p.Rates[k]? with
  | none => rw [hr] at h; cases h
  | some r => rw [hr] at h; exact .inl ⟨r, rfl, by simpa using h⟩
 ·rename_i D
  rw [List.length_map] at D h
  rw [List.getElem?_map] at h
  cases hr : p.Ports[k - p.Rates.length]? with
  | none => rw [hr] at h; cases h
  | some r => rw [hr] at h; exact .inr ⟨by omega, r, rfl, by simpa using h⟩
theorem Q9 {p : Plan} {k : Nat} {r : Int} (h : p.Rates[k]? = some r) : (Cx p)[k]? = some (r != 0) := by
 have := (gs h).1
 unfold Cx
 rw [List.getElem?_append_left (by simpa using this), List.getElem?_map, h]; rfl
theorem La {p : Plan} {k : Nat} {r : Int} (h : p.Ports[k]? = some r) : (Cx p)[p.Rates.length + k]? = some (r != 0) := by
 unfold Cx
 rw [List.getElem?_append_right (by simp), List.length_map, Nat.add_sub_cancel_left, List.getElem?_map, h]; rfl
theorem Ra {n : Network} {up : Bool} {p : Plan} (hp : PlanOk n p) {l : List Path} (hd : Divided n up p l) {rs : List Int} (h : Part l rs) {pumps : List Bool} {k : Nat} (O : (Cx (Cs n l rs pumps))[k]? = some true) : (Cx p)[k]? = some true := by
 rcases fG O with ⟨r, h1, h2⟩ | ⟨G, x, h1, h2⟩
 ·obtain ⟨hl, rfl⟩ := Fs h1
  have D : p.Rates[k]? = some (p.Rates[k]'(by rw [hp.rl]; exact hl)) := gq _
  have := Pm hd h D
  rw [Q9 D]
  simp only [Option.some.injEq, bne_iff_ne, ne_eq]
  intro h; rw [h] at this; omega
 ·have M : n.Segments.length ≤ k := by rw [show (Cs n l rs pumps).Rates = C5 n l rs from rfl, Dr] at G; exact G
  rw [show (Cs n l rs pumps).Rates = C5 n l rs from rfl, Dr] at h1
  obtain ⟨hl, rfl⟩ := Ev h1
  have D : p.Ports[k - n.Segments.length]? = some (p.Ports[k - n.Segments.length]'(by rw [hp.pl]; exact hl)) := gq _
  have := Gs hd h D
  have e := La D
  rw [hp.rl, show n.Segments.length + (k - n.Segments.length) = k by omega] at e
  rw [e]
  simp only [Option.some.injEq, bne_iff_ne, ne_eq]
  intro h; rw [h] at this; omega
theorem T3 {n : Network} {up : Bool} {p : Plan} (hp : PlanOk n p) {l : List Path} (hd : Divided n up p l) {rs : List Int} (h : Part l rs) {pumps : List Bool} (hm : pumps.length = n.Stations.length) {vs : List Valve} (hv : VsOk n vs) (G : Gi vs (Cx p))
  (hf : FedP n (Cs n l rs pumps)) : DeskOk n ⟨vs, Cs n l rs pumps⟩ :=
 ⟨hv, Kh hp hd h hm, fun k D => G k (Ra hp hd h D), hf⟩
theorem fF {n : Network} {up : Bool} {p : Plan} (hp : PlanOk n p) {l : List Path} (hd : Divided n up p l) {vs : List Valve} (O : Gi vs (Cx p)) {u : Path} (M : u ∈ l) : PReady n vs u := by
 have M := hd.paths u M
 obtain ⟨a, o, y0, y1, W, X, hne, Y, hol, ya, ya0, yo, yo0⟩ := M.ends
 refine ⟨fun h Z => ?_, ?_, ?_⟩
 ·obtain ⟨j, hj⟩ := List.getElem?_of_mem Z
  obtain ⟨k, s, r, q1, q2, q3, q4, _⟩ := M.hop hd.res hj
  obtain ⟨v, D, G⟩ := O k (by rw [Q9 q3]; simp; omega)
  exact ⟨k, v, q1, D, G⟩
 ·obtain ⟨v, D, G⟩ := O _ (by rw [La ya]; simp; omega)
  rw [hp.rl] at D
  exact ⟨a, v, W, D, G⟩
 ·obtain ⟨v, D, G⟩ := O _ (by rw [La yo]; simp; omega)
  rw [hp.rl] at D
  exact ⟨o, v, X, D, G⟩
theorem Vg {n : Network} {vs : List Valve} (hv : VsOk n vs) {s t : Int} (D : 0 ≤ s) (G : 0 ≤ t) : (vs.map (Ei s)).map (Ei t) = vs.map (Ei (s + t)) := by
 rw [List.map_map]
 exact List.map_congr_left fun v h => X2 (hv.2 v h) D G
theorem H6 {n : Network} {vs : List Valve} (hv : VsOk n vs) : vs.map (Ei 0) = vs := by
 conv => rhs; rw [← List.map_id vs]
 exact List.map_congr_left fun v h => U6 (hv.2 v h)
theorem X7 (u : Path) (v : Int) : tk (Hw u v) = 0 := rfl
theorem iS {t : Int} (h : 1 ≤ t ∧ t ≤ 100) : tk (Pf t) = t := by unfold tk Pf; simp; omega
theorem R8 {t : Int} (h : 0 ≤ t ∧ t ≤ 100) : Jb (E7 t) = t := by
 unfold E7
 split
 ·simp only [Jb, iS (t := t) (by omega)]; omega
 ·simp only [Jb]; omega
theorem R7 {n : Network} (hn : NetOk n) {Q : Desk → Prop} {d : Desk} (hd : DeskOk n d) {t : Int} (G : 0 ≤ t ∧ t ≤ 100) (D : ∀ vs, Q ⟨vs, d.Plan⟩) : Runs n Q d (E7 t) ⟨d.Valves.map (Ei t), d.Plan⟩ := by
 unfold E7
 split
 ·exact .one (W2 hn hd (by omega)) (D _)
 ·have : t = 0 := by omega
  subst this
  rw [H6 hd.vs]; rfl
theorem Va {α : Type} {l : List α} {i : Nat} {x : α} (h : l[i]? = some x) : l.set i x = l := by
 refine List.ext_getElem? fun j => ?_
 rw [Ds]
 split
 ·rename_i D; rw [← D.1, h]
 ·rfl
theorem jB {cm rs : List Int} (h : Les cm rs) {i : Nat} {x c : Int} (hc : cm[i]? = some c) (hx : c ≤ x) : Les cm (rs.set i x) := by
 intro j r s h1 h2
 rw [Ds] at h2
 split at h2
 ·rename_i D
  rw [← D.1, hc] at h1
  simp at h1 h2; omega
 ·exact h j r s h1 h2
section
variable {n : Network} (hn : NetOk n) {Q : Desk → Prop} {up : Bool} {p : Plan} (hp : PlanOk n p) {l : List Path} (hd : Divided n up p l) {pumps : List Bool} (hm : pumps.length = n.Stations.length) {cm : List Int}
 (hfed : ∀ rs, Part l rs → Les cm rs → FedP n (Cs n l rs pumps)) (hQ : ∀ vs rs, Part l rs → Les cm rs → Q ⟨vs, Cs n l rs pumps⟩) {sign ramp rest : Int} (hsg : sign = 1 ∨ sign = -1) (hr : 1 ≤ ramp ∧ ramp ≤ 1000) (ht : 0 ≤ rest ∧ rest ≤ 100)
include hn hp hd hm hfed hQ hsg hr ht
theorem Sk {i : Nat} {u : Path} (hi : l[i]? = some u) {c : Int} (hc : cm[i]? = some c) : ∀ (m : Nat) (b : Int), b.toNat ≤ m → 0 ≤ b → ∀ (vs : List Valve) (rs : List Int) (r : Int), VsOk n vs → Gi vs (Cx p) → Part l rs → Les cm rs → rs[i]? = some r →
  (∀ t, 0 ≤ t → t ≤ b → 0 ≤ r + sign * t ∧ r + sign * t ≤ u.Rate ∧ c ≤ r + sign * t) →
  Runs n Q ⟨vs, Cs n l rs pumps⟩ (E3 u sign ramp rest b) ⟨vs.map (Ei (Jb (E3 u sign ramp rest b))), Cs n l (rs.set i (r + sign * b)) pumps⟩
 | 0, b, hb, h0, vs, rs, r, hv, hvr, h1, h2, h3, h4 => by
  have : b = 0 := by omega
  subst this
  rw [E0 (by omega), show r + sign * 0 = r by rw [Int.mul_zero, Int.add_zero], Va h3, show Jb [] = 0 from rfl, H6 hv]; rfl
 | m + 1, b, hb, h0, vs, rs, r, hv, hvr, h1, h2, h3, h4 => by
  by_cases hp0 : 0 < b
  ·have hus := (hd.paths u (mg hi)).small
   have D := h4 (min b ramp) (by omega) (by omega)
   have G := h1.set hi (x := r + sign * min b ramp) ⟨D.1, D.2.1⟩
   have M := jB h2 hc D.2.2
   have Y := T3 hp hd h1 hm hv hvr (hfed rs h1 h2)
   have O := T3 hp hd G hm hv hvr (hfed _ G M)
   have st := W5 hn hp hd h1 (v := sign * min b ramp) hi h3 (by rcases hsg with rfl | rfl <;> omega) ⟨D.1, D.2.1⟩ Y (fF hp hd hvr (mg hi)) (hfed _ G M)
   have w := R7 hn (Q := Q) O ht fun vs => hQ vs _ G M
   rw [Ki hp0 (by omega)]
   refine ⟨_, st, hQ _ _ G M, w.append ?_⟩
   dsimp only
   have W : (rs.set i (r + sign * min b ramp))[i]? = some (r + sign * min b ramp) := List.getElem?_set_self (gs h3).1
   by_cases hle : ramp ≤ b
   ·have e : min b ramp = ramp := by omega
    rw [e] at G M W ⊢
    have Z := Sk hi hc m (b - ramp) (by omega) (by omega) (vs.map (Ei rest)) _ _ (hv.pass ht.1) (Hl hv hvr ht.1) G M W (fun t ht0 ht1 => by
     have := h4 (ramp + t) (by omega) (by omega)
     rw [Int.mul_add] at this; omega)
    rw [List.set_set, Vg hv ht.1 (F0 _).1] at Z
    have e2 : r + sign * ramp + sign * (b - ramp) = r + sign * b := by rw [Int.mul_sub]; omega
    rw [e2] at Z
    have X : Jb (Hw u (sign * ramp) :: (E7 rest ++ E3 u sign ramp rest (b - ramp))) = rest + Jb (E3 u sign ramp rest (b - ramp)) := by
     show tk _ + Jb (_ ++ _) = _
     rw [X7, Hd, R8 ht]; omega
    rw [X]; exact Z
   ·have e : min b ramp = b := by omega
    rw [e, E0 (b := b - ramp) (by omega), List.append_nil]
    have X : Jb (Hw u (sign * b) :: E7 rest) = rest := by
     show tk _ + Jb _ = _
     rw [X7, R8 ht]; omega
    rw [X]; rfl
  ·have : b = 0 := by omega
   subst this
   rw [E0 (by omega), show r + sign * 0 = r by rw [Int.mul_zero, Int.add_zero], Va h3, show Jb [] = 0 from rfl, H6 hv]; rfl
theorem I1 {other : List Path} {ff tf : Path → Int} (X : cm = l.map (mr other)) (Y : ∀ u, u ∈ l → tf u = ff u + sign * (u.Rate - mr other u) ∧ 0 ≤ mr other u ∧ mr other u ≤ u.Rate ∧ ∀ t, 0 ≤ t → t ≤ u.Rate - mr other u → ff u + sign * t ≤ u.Rate ∧ mr other u ≤ ff u + sign * t) :
  ∀ (M D : List Path), l = D ++ M → ∀ vs : List Valve, VsOk n vs → Gi vs (Cx p) →
   Runs n Q ⟨vs, Cs n l (D.map tf ++ M.map ff) pumps⟩ (Cu sign ramp rest M other) ⟨vs.map (Ei (Jb (Cu sign ramp rest M other))), Cs n l (l.map tf) pumps⟩
 | [], D, h, vs, hv, hvr => by
  have : l = D := by simpa using h
  subst this
  rw [show Cu sign ramp rest [] other = [] from rfl, show Jb [] = 0 from rfl, H6 hv, List.map_nil, List.append_nil]; rfl
 | u :: M, D, h, vs, hv, hvr => by
  have W : ∀ w, w ∈ D ++ u :: M → 0 ≤ ff w ∧ ff w ≤ w.Rate ∧ mr other w ≤ ff w ∧ 0 ≤ tf w ∧ tf w ≤ w.Rate ∧ mr other w ≤ tf w := fun w G => by
   obtain ⟨a, b, c, d⟩ := Y w (h ▸ G)
   have d0 := d 0 (by omega) (by omega)
   have d1 := d (w.Rate - mr other w) (by omega) (by omega)
   rw [Int.mul_zero] at d0
   omega
  have Z : Part l (D.map tf ++ (u :: M).map ff) := by
   rw [h]
   refine ⟨by simp, fun i w x G hx => ?_⟩
   have ae := mg G
   have := W w ae
   rw [List.getElem?_append] at G hx
   rw [List.length_map] at hx
   split at G <;> rename_i O
   ·rw [if_pos O, List.getElem?_map, G] at hx; simp at hx; omega
   ·rw [if_neg O, List.getElem?_map, G] at hx; simp at hx; omega
  have aa : Les cm (D.map tf ++ (u :: M).map ff) := by
   rw [X, h]
   intro i x y hx hy
   rw [List.getElem?_map] at hx
   cases G : (D ++ u :: M)[i]? with
   | none => rw [G] at hx; cases hx
   | some w =>
    rw [G] at hx
    have := W w (mg G)
    rw [List.getElem?_append] at G hy
    rw [List.length_map] at hy
    simp at hx
    split at G <;> rename_i O
    ·rw [if_pos O, List.getElem?_map, G] at hy; simp at hy; omega
    ·rw [if_neg O, List.getElem?_map, G] at hy; simp at hy; omega
  have hi : l[D.length]? = some u := by rw [h, List.getElem?_append_right (by omega)]; simp
  have ac : cm[D.length]? = some (mr other u) := by rw [X, List.getElem?_map, hi]; rfl
  have ad : (D.map tf ++ (u :: M).map ff)[D.length]? = some (ff u) := by rw [List.getElem?_append_right (by simp)]; simp
  obtain ⟨a, b, c, d⟩ := Y u (mg hi)
  have ab := Sk hn hp hd hm hfed hQ hsg hr ht hi ac (u.Rate - mr other u).toNat (u.Rate - mr other u) (Nat.le_refl _) (by omega) vs _ _ hv hvr Z aa ad fun t h0 h1 => by
   have := d t h0 h1; omega
  have e : (D.map tf ++ (u :: M).map ff).set D.length (ff u + sign * (u.Rate - mr other u)) = (D ++ [u]).map tf ++ M.map ff := by
   rw [← a, List.set_append_right _ _ (by simp)]; simp
  rw [e] at ab
  have ih := I1 X Y M (D ++ [u]) (by rw [h]; simp) _ (hv.pass (F0 (E3 u sign ramp rest (u.Rate - mr other u))).1) (Hl hv hvr (F0 (E3 u sign ramp rest (u.Rate - mr other u))).1)
  rw [Vg hv (F0 _).1 (F0 _).1] at ih
  have e2 : Cu sign ramp rest (u :: M) other = E3 u sign ramp rest (u.Rate - mr other u) ++ Cu sign ramp rest M other := by unfold Cu; rw [List.flatMap_cons]
  rw [e2, Hd]
  exact ab.append ih
end
theorem FedP.of {n : Network} {p : Plan} (h : ∀ i : Nat, p.Pumps[i]? = some true → Ey n p i) : FedP n p := fun i st D hp => h i hp st D
theorem FedP.comes {n : Network} {p : Plan} (h : FedP n p) {i : Nat} (hi : p.Pumps[i]? = some true) : Ey n p i := fun st D => h i st D hi
theorem N1 {n : Network} (hn : NetOk n) {Q : Desk → Prop} (b : Bool) {vs : List Valve} {rates ports : List Int} (M : ∀ m, Q ⟨vs, ⟨rates, ports, m⟩⟩) : ∀ (is : List Nat) (m : List Bool), DeskOk n ⟨vs, ⟨rates, ports, m⟩⟩ → (∀ i, i ∈ is → i < n.Stations.length ∧ (b = true → Ey n ⟨rates, ports, m⟩ i)) →
  Runs n Q ⟨vs, ⟨rates, ports, m⟩⟩ (is.map fun i => if b = true then Ij i else E8 i) ⟨vs, ⟨rates, ports, Co b is m⟩⟩
 | [], m, _, _ => rfl
 | i :: is, m, hd, hi => by
  have hf : FedP n ⟨rates, ports, m.set i b⟩ := .of fun j D => by
   dsimp only at D
   rw [Ds] at D
   split at D
   ·rename_i G
    simp at D
    rw [← G.1]
    exact (hi i (by simp)).2 D
   ·exact hd.fed.comes D
  have hp : PlanOk n ⟨rates, ports, m.set i b⟩ := ⟨hd.plan.rl, hd.plan.pl, by dsimp only; rw [List.length_set]; exact hd.plan.ml, hd.plan.rng, hd.plan.prt, hd.plan.bal, hd.plan.dir⟩
  exact ⟨_, W4 hn hd (hi i (by simp)).1 b hf, M _, N1 hn b M is (m.set i b) ⟨hd.vs, hp, hd.ready, hf⟩ fun j D => hi j (by simp [D])⟩
def Yj (c : Nat × Bool) : Step := if c.2 = true then Hk c.1 else Fd c.1
def Oo (c : Nat × Bool) (V : List Valve) : List Valve := match V[c.1]? with | some v => V.set c.1 (Dc c.2 v) | none => V
def Ty : List (Nat × Bool) → List Valve → List Valve
 | [], V => V
 | c :: l, V => Ty l (Oo c V)
theorem fA {c : Nat × Bool} {V : List Valve} {k : Nat} : (Oo c V)[k]? = if c.1 = k then (V[k]?).map (Dc c.2) else V[k]? := by
 unfold Oo
 by_cases h : c.1 = k
 ·subst h
  rw [if_pos rfl]
  cases hv : V[c.1]? with
  | none => simpa using hv
  | some v => simp only [Option.map_some]; exact List.getElem?_set_self (gs hv).1
 ·rw [if_neg h]
  cases hv : V[c.1]? with
  | none => rfl
  | some v => simp only; exact List.getElem?_set_ne h
theorem X8 : ∀ {l : List (Nat × Bool)} {V : List Valve} {nd : List Bool} {k : Nat} {b : Bool}, (∀ c, c ∈ l → nd[c.1]? = some c.2) → nd[k]? = some b → (Ty l V)[k]? = if k ∈ l.map Prod.fst then (V[k]?).map (Dc b) else V[k]?
 | [], V, nd, k, b, _, _ => by simp [Ty]
 | c :: l, V, nd, k, b, h, hk => by
  simp only [Ty]
  rw [X8 (fun c hc => h c (by simp [hc])) hk, fA]
  have hc := h c (by simp)
  simp only [List.map_cons, List.mem_cons]
  by_cases h1 : c.1 = k
  ·have : c.2 = b := by rw [h1, hk] at hc; simpa using hc.symm
   rw [if_pos h1, if_pos (show k = c.1 ∨ k ∈ l.map Prod.fst from .inl h1.symm), this]
   split
   ·cases V[k]? <;> rfl
   ·rfl
  ·rw [if_neg h1]
   by_cases h2 : k ∈ l.map Prod.fst
   ·rw [if_pos h2, if_pos (.inr h2)]
   ·rw [if_neg h2, if_neg]
    rintro (h | h)
    ·exact h1 h.symm
    ·exact h2 h
theorem Vb : ∀ (l : List (Nat × Bool)) (V : List Valve), (Ty l V).length = V.length
 | [], V => rfl
 | c :: l, V => by
  simp only [Ty]
  rw [Vb l]
  unfold Oo
  split <;> simp
theorem Vr {n : Network} (hn : NetOk n) {Q : Desk → Prop} {P : Plan} {nd : List Bool} (D : ∀ k : Nat, (Cx P)[k]? = some true → nd[k]? = some true) (X : nd.length = n.Segments.length + n.Ports.length) (Z : ∀ vs, Q ⟨vs, P⟩) :
  ∀ (l : List (Nat × Bool)) (V : List Valve), (∀ c, c ∈ l → nd[c.1]? = some c.2) → DeskOk n ⟨V, P⟩ → Runs n Q ⟨V, P⟩ (l.map Yj) ⟨Ty l V, P⟩ ∧ DeskOk n ⟨Ty l V, P⟩
 | [], V, _, hd => ⟨rfl, hd⟩
 | c :: l, V, hc, hd => by
  have O := hc c (by simp)
  have hl := (gs O).1
  have G := hd.vs.1
  have hx : V[c.1]? = some (V[c.1]'(by dsimp only at G; omega)) := gq _
  generalize V[c.1]'(by dsimp only at G; omega) = v at hx
  have e : Oo c V = V.set c.1 (Dc c.2 v) := by unfold Oo; rw [hx]
  have Y := H7 hd.plan.rl hd.plan.pl
  have st := W3 hn hd hx c.2 fun hb => by
   dsimp only at Y ⊢
   have hq : (Cx P)[c.1]? = some ((Cx P)[c.1]'(by omega)) := gq _
   cases hz : (Cx P)[c.1]'(by omega) with
   | false => rw [hq, hz]
   | true =>
    have := D c.1 (by rw [hq, hz])
    rw [O, hb] at this; cases this
  have W : DeskOk n ⟨Oo c V, P⟩ := by
   rw [e]
   refine ⟨hd.vs.set (iO (hd.vs.at hx) _), hd.plan, fun k hk => ?_, hd.fed⟩
   obtain ⟨w, h1, h2, h3⟩ := hd.ready k hk
   dsimp only at h1 ⊢
   by_cases M : c.1 = k
   ·subst M
    have hb : c.2 = true := by have := D _ hk; rw [O] at this; simpa using this
    rw [hx] at h1; simp at h1; subst h1
    exact ⟨Dc c.2 v, List.getElem?_set_self (by dsimp only at G; omega), h2, hb⟩
   ·exact ⟨w, by rw [List.getElem?_set_ne M]; exact h1, h2, h3⟩
  obtain ⟨r1, r2⟩ := Vr hn D X Z l (Oo c V) (fun x hx => hc x (by simp [hx])) W
  exact ⟨⟨_, st, Z _, by dsimp only; rw [← e]; exact r1⟩, r2⟩
def Km (vs : List Valve) (nd : List Bool) : List Valve := List.zipWith (fun v b => (⟨v.Travel, if b = true then v.Travel else 0, b, v.Stuck⟩ : Valve)) vs nd
theorem O8 {vs : List Valve} {nd : List Bool} {k : Nat} {v : Valve} {b : Bool} (h1 : vs[k]? = some v) (h2 : nd[k]? = some b) : (Km vs nd)[k]? = some ⟨v.Travel, if b = true then v.Travel else 0, b, v.Stuck⟩ := by
 unfold Km; rw [List.getElem?_zipWith, h1, h2]
theorem L1 {vs : List Valve} {nd : List Bool} (h : nd.length = vs.length) : (Km vs nd).length = vs.length := by unfold Km; simp [h]
theorem jF {n : Network} {vs : List Valve} (hv : VsOk n vs) {nd : List Bool} (h : nd.length = vs.length) : VsOk n (Km vs nd) := by
 refine ⟨by rw [L1 h]; exact hv.1, fun v O => ?_⟩
 obtain ⟨k, G⟩ := List.getElem?_of_mem O
 have D := (gs G).1
 rw [L1 h] at D
 have h1 : vs[k]? = some vs[k] := gq D
 have h2 : nd[k]? = some (nd[k]'(by omega)) := gq _
 rw [O8 h1 h2] at G
 simp at G; subst G
 have M := hv.at h1
 have := M.travel
 exact ⟨M.travel, by dsimp only; split <;> omega, M.free⟩
theorem Lb {vs : List Valve} {nd : List Bool} (h : nd.length = vs.length) : Gi (Km vs nd) nd := by
 intro k D
 have G := (gs D).1
 exact ⟨_, O8 (gq (show k < vs.length by omega)) D, rfl, rfl⟩
theorem Y7 {n : Network} {vs : List Valve} (hv : VsOk n vs) {nd : List Bool} (h : nd.length = vs.length) {t : Int} (G : 0 ≤ t) : (Km vs nd).map (Ei t) = Km vs nd := by
 refine List.ext_getElem? fun k => ?_
 rw [List.getElem?_map]
 by_cases D : k < vs.length
 ·have h1 : vs[k]? = some vs[k] := gq D
  have h2 : nd[k]? = some (nd[k]'(by omega)) := gq _
  have := (hv.at h1).travel
  rw [O8 h1 h2]
  unfold Ei
  simp only [Option.map_some, Option.some.injEq, Valve.mk.injEq, true_and, and_true]
  split <;> omega
 ·rw [List.getElem?_eq_none (by rw [L1 h]; omega)]; rfl
theorem Uv {vs : List Valve} {nd : List Bool} {t : Int} : Km (vs.map (Ei t)) nd = Km vs nd := by
 unfold Km; rw [List.zipWith_map_left]; rfl
theorem eU {n : Network} {V : List Valve} (hv : VsOk n V) {nd : List Bool} (hl : nd.length = V.length) {cs os : List Nat} {most : Int} (D : Turns V nd cs os most) :
  (Ty (cs.map (fun i => (i, false)) ++ os.map fun i => (i, true)) V).map (Ei most) = Km V nd := by
 have hr := D.rng
 have hc : ∀ c, c ∈ cs.map (fun i => (i, false)) ++ os.map (fun i => (i, true)) → nd[c.1]? = some c.2 := by
  intro c hc
  rcases List.mem_append.1 hc with hc | hc
  ·obtain ⟨i, hi, rfl⟩ := List.mem_map.1 hc
   obtain ⟨v, _, h, _⟩ := D.tc i hi; exact h
  ·obtain ⟨i, hi, rfl⟩ := List.mem_map.1 hc
   obtain ⟨v, _, h, _⟩ := D.to_ i hi; exact h
 refine List.ext_getElem? fun k => ?_
 rw [List.getElem?_map]
 by_cases W : k < V.length
 ·have h1 : V[k]? = some V[k] := gq W
  have h2 : nd[k]? = some (nd[k]'(by omega)) := gq _
  generalize V[k] = v at h1
  generalize nd[k]'(by omega) = b at h2
  have X := hv.at h1
  have ho := X.opn
  rw [X8 hc h2, O8 h1 h2, h1]
  have M : ∀ w : Valve, w.Travel = v.Travel → w.Open = v.Open → w.Want = b → w.Stuck = v.Stuck → (b = true → v.Travel - v.Open ≤ most) → (b = false → v.Open ≤ most) → Ei most w = ⟨v.Travel, if b = true then v.Travel else 0, b, v.Stuck⟩ := by
   intro w Z e2 e3 e4 e5 e6
   unfold Ei
   rw [Z, e2, e3, e4]
   cases b
   ·have := e6 rfl
    simp only [Bool.false_eq_true, if_false, Valve.mk.injEq, true_and, and_true]; omega
   ·have := e5 rfl
    simp only [if_true, Valve.mk.injEq, true_and, and_true]; omega
  have mem : k ∈ (cs.map (fun i => (i, false)) ++ os.map fun i => (i, true)).map Prod.fst ↔ k ∈ cs ∨ k ∈ os := by
   simp only [List.map_append, List.map_map, List.mem_append, List.mem_map, Function.comp]
   constructor
   ·rintro (⟨a, h, rfl⟩ | ⟨a, h, rfl⟩)
    ·exact .inl h
    ·exact .inr h
   ·rintro (h | h)
    ·exact .inl ⟨k, h, rfl⟩
    ·exact .inr ⟨k, h, rfl⟩
  by_cases hm : k ∈ cs ∨ k ∈ os
  ·rw [if_pos (mem.2 hm)]
   simp only [Option.map_some, Option.some.injEq]
   refine M _ rfl rfl rfl rfl (fun hb => ?_) fun hb => ?_
   ·rcases hm with hm | hm
    ·obtain ⟨w, _, h, _⟩ := D.tc k hm; rw [h2, hb] at h; cases h
    ·obtain ⟨w, G, _, h, _⟩ := D.to_ k hm; rw [h1] at G; simp at G; subst G; exact h
   ·rcases hm with hm | hm
    ·obtain ⟨w, G, _, h, _⟩ := D.tc k hm; rw [h1] at G; simp at G; subst G; exact h
    ·obtain ⟨w, _, h, _⟩ := D.to_ k hm; rw [h2, hb] at h; cases h
  ·rw [if_neg fun h => hm (mem.1 h)]
   simp only [Option.map_some, Option.some.injEq]
   cases b
   ·obtain ⟨Y, O⟩ := D.shut k v h1 h2 fun h => hm (.inl h)
    exact M _ rfl rfl O rfl (fun h => by cases h) fun _ => by omega
   ·obtain ⟨Y, O⟩ := D.open_ k v h1 h2 fun h => hm (.inr h)
    exact M _ rfl rfl O rfl (fun _ => by omega) fun h => by cases h
 ·rw [List.getElem?_eq_none (by rw [Vb]; omega), List.getElem?_eq_none (by rw [L1 hl]; omega)]; rfl
def Qst (n : Network) (a b : List Path) (f : Desk) : Prop :=
 (∃ rs, Part a rs ∧ Les (a.map (mr b)) rs ∧ f.Plan.Rates = C5 n a rs ∧ f.Plan.Ports = Cy n a rs) ∨ ∃ rs, Part b rs ∧ Les (b.map (mr a)) rs ∧ f.Plan.Rates = C5 n b rs ∧ f.Plan.Ports = Cy n b rs
theorem Les.refl (l : List Int) : Les l l := fun i r s h1 h2 => by rw [h1] at h2; simp at h2; omega
theorem R9 : ∀ l : List Nat, Jb (l.map E8) = 0
 | [] => rfl
 | i :: l => by
  show tk (E8 i) + Jb (l.map E8) = 0
  rw [R9 l]; rfl
theorem mA {n : Network} (hn : NetOk n) {d : Desk} (hd : DeskOk n d) {to : Plan} (Z : PlanOk n to) (hf : FedP n to) {ramp rest : Int} (hr : 1 ≤ ramp ∧ ramp ≤ 1000) (hs : 0 ≤ rest ∧ rest ≤ 100) {a b : List Path} {sp cs os : List Nat} {most : Int} {ss : List Nat}
  (hc : Comp n d to ramp rest a b sp cs os most ss) : Runs n (Qst n a b) d (Gz ramp rest a b sp cs os most ss) ⟨Km d.Valves (Cx to), to⟩ ∧ DeskOk n ⟨Km d.Valves (Cx to), to⟩ := by
 obtain ⟨upa, Y⟩ := hc.pa
 obtain ⟨upb, hb⟩ := hc.pb
 have hvl := hd.vs.1
 have G : (Cx to).length = d.Valves.length := by rw [H7 Z.rl Z.pl]; exact hvl.symm
 have hml := hd.plan.ml
 have ae : Part a (a.map (·.Rate)) := .full Y.paths
 have D : Part b (b.map (·.Rate)) := .full hb.paths
 have cA : Part a (a.map (mr b)) := .common Y.paths hb.paths
 have cB : Part b (b.map (mr a)) := .common hb.paths Y.paths
 have M := fun m => O1 (n := n) Y.apt hb.apt m
 have aa : ∀ (m : List Bool) (vs : List Valve) (rs : List Int), Part a rs → Les (a.map (mr b)) rs → Qst n a b ⟨vs, Cs n a rs m⟩ := fun m vs rs h1 h2 => .inl ⟨rs, h1, h2, rfl, rfl⟩
 have hQb : ∀ (m : List Bool) (vs : List Valve) (rs : List Int), Part b rs → Les (b.map (mr a)) rs → Qst n a b ⟨vs, Cs n b rs m⟩ := fun m vs rs h1 h2 => .inr ⟨rs, h1, h2, rfl, rfl⟩
 have ab : (Co false sp d.Plan.Pumps).length = n.Stations.length := by rw [He]; exact hml
 have ac : ∀ rs, Part a rs → Les (a.map (mr b)) rs → FedP n (Cs n a rs (Co false sp d.Plan.Pumps)) := fun rs h1 h2 => .of fun i hi st X =>
  Ri hd.plan Y cA h1 h2 ((hc.hsp.keep i hi).2.2 st X)
 have ad : ∀ rs, Part b rs → Les (b.map (mr a)) rs → FedP n (Cs n b rs (Co false sp d.Plan.Pumps)) := fun rs h1 h2 => .of fun i hi st X => by
  have h := (hc.hsp.keep i hi).2.2 st X
  rw [M] at h
  exact Ri Z hb cB h1 h2 h
 have e0 : d = ⟨d.Valves, ⟨C5 n a (a.map (·.Rate)), Cy n a (a.map (·.Rate)), d.Plan.Pumps⟩⟩ := by
  have := Jw hd.plan Y
  unfold Cs at this
  rw [this]
 have hd0 : DeskOk n ⟨d.Valves, ⟨C5 n a (a.map (·.Rate)), Cy n a (a.map (·.Rate)), d.Plan.Pumps⟩⟩ := e0 ▸ hd
 have r1 : Runs n (Qst n a b) d (sp.map E8) ⟨d.Valves, Cs n a (a.map (·.Rate)) (Co false sp d.Plan.Pumps)⟩ := by
  have := N1 hn (Q := Qst n a b) false (fun m => aa m _ _ ae cA.les_full) sp d.Plan.Pumps hd0 fun i hi => ⟨by have := (hc.hsp.idx i hi).1; omega, fun h => by cases h⟩
  rw [← e0] at this
  exact this
 have r2 : Runs n (Qst n a b) ⟨d.Valves, Cs n a (a.map (·.Rate)) (Co false sp d.Plan.Pumps)⟩ (Cu (-1) ramp rest a b) ⟨d.Valves.map (Ei (Jb (Cu (-1) ramp rest a b))), Cs n a (a.map (mr b)) (Co false sp d.Plan.Pumps)⟩ :=
  I1 hn hd.plan Y ab ac (aa _) (.inr rfl) hr hs rfl (ff := (·.Rate)) (tf := mr b) (fun u hu => by
   have := Ik (l := b) (u := u) (fun y hy => (hb.paths y hy).small.2.1) (Y.paths u hu).small.2.1
   refine ⟨by omega, this.1, this.2, fun t h0 h1 => ?_⟩
   show u.Rate + -1 * t ≤ u.Rate ∧ mr b u ≤ u.Rate + -1 * t
   omega) a [] rfl d.Valves hd.vs hd.ready
 have htl : Jb (sp.map E8 ++ Cu (-1) ramp rest a b) = Jb (Cu (-1) ramp rest a b) := by rw [Hd, R9]; omega
 have O := hc.tn
 rw [htl] at O
 have ag := (F0 (Cu (-1) ramp rest a b)).1
 generalize Jb (Cu (-1) ramp rest a b) = ah at r2 O ag
 have hv2 := hd.vs.pass ag
 have hd2 : DeskOk n ⟨d.Valves.map (Ei ah), Cs n a (a.map (mr b)) (Co false sp d.Plan.Pumps)⟩ := T3 hd.plan Y cA ab hv2 (Hl hd.vs hd.ready ag) (ac _ cA (.refl _))
 have hsub : ∀ k : Nat, (Cx (Cs n a (a.map (mr b)) (Co false sp d.Plan.Pumps)))[k]? = some true → (Cx to)[k]? = some true := fun k hk => by
  rw [M] at hk
  exact Ra Z hb cB hk
 have hcmd : ∀ c, c ∈ cs.map (fun i => (i, false)) ++ os.map (fun i => (i, true)) → (Cx to)[c.1]? = some c.2 := by
  intro c hcm
  rcases List.mem_append.1 hcm with h | h
  ·obtain ⟨i, hi, rfl⟩ := List.mem_map.1 h
   obtain ⟨v, _, h, _⟩ := O.tc i hi; exact h
  ·obtain ⟨i, hi, rfl⟩ := List.mem_map.1 h
   obtain ⟨v, _, h, _⟩ := O.to_ i hi; exact h
 obtain ⟨r3, hd3⟩ := Vr hn hsub (by rw [G]; exact hvl) (Q := Qst n a b) (fun vs => aa _ vs _ cA (.refl _)) _ _ hcmd hd2
 have e3 : (cs.map (fun i => (i, false)) ++ os.map fun i => (i, true)).map Yj = cs.map Fd ++ os.map Hk := by
  rw [List.map_append, List.map_map, List.map_map]; rfl
 rw [e3] at r3
 have r4 := R7 hn hd3 (t := most) (by have := O.rng; omega) (Q := Qst n a b) fun vs => aa _ vs _ cA (.refl _)
 dsimp only at r4
 rw [eU hv2 (by rw [List.length_map]; exact G) O, Uv] at r4
 have af := jF hd.vs G
 rw [M] at r4
 have r5 : Runs n (Qst n a b) ⟨Km d.Valves (Cx to), Cs n b (b.map (mr a)) (Co false sp d.Plan.Pumps)⟩ (Cu 1 ramp rest b a) ⟨Km d.Valves (Cx to), Cs n b (b.map (·.Rate)) (Co false sp d.Plan.Pumps)⟩ := by
  have := I1 hn Z hb ab ad (hQb _) (.inl rfl) hr hs rfl (ff := mr a) (tf := (·.Rate)) (fun u hu => by
   have := Ik (l := a) (u := u) (fun y hy => (Y.paths y hy).small.2.1) (hb.paths u hu).small.2.1
   refine ⟨by omega, this.1, this.2, fun t h0 h1 => ?_⟩
   omega) b [] rfl _ af (Lb G)
  rw [Y7 hd.vs G (F0 _).1] at this
  exact this
 have hd5 := T3 Z hb D ab af (Lb G) (ad _ D cB.les_full)
 have W : (⟨C5 n b (b.map (·.Rate)), Cy n b (b.map (·.Rate)), to.Pumps⟩ : Plan) = to := Jw Z hb
 have eS : Co true ss (Co false sp d.Plan.Pumps) = to.Pumps := by
  refine List.ext_getElem? fun i => ?_
  rw [N0]
  have htm := Z.ml
  by_cases hi : i < n.Stations.length
  ·have hx : to.Pumps[i]? = some (to.Pumps[i]'(by omega)) := gq _
   have hy : (Co false sp d.Plan.Pumps)[i]? = some ((Co false sp d.Plan.Pumps)[i]'(by omega)) := gq _
   generalize to.Pumps[i]'(by omega) = x at hx
   generalize (Co false sp d.Plan.Pumps)[i]'(by omega) = y at hy
   by_cases hm : i ∈ ss
   ·rw [if_pos ⟨hm, by omega⟩, (hc.hss.idx i hm).2.2]
   ·rw [if_neg fun h => hm h.1, hx, hy]
    cases x <;> cases y <;> try rfl
    ·have := (hc.hsp.keep i hy).2.1
     rw [hx] at this; cases this
    ·exact absurd (hc.hss.all i hx hy) hm
  ·rw [if_neg fun h => hi (by omega), List.getElem?_eq_none (by omega), List.getElem?_eq_none (by omega)]
 have r6 := N1 hn (Q := Qst n a b) true (fun m => hQb m _ _ D cB.les_full) ss (Co false sp d.Plan.Pumps) hd5 fun i hi => by
  have := (hc.hss.idx i hi)
  refine ⟨by have := Z.ml; omega, fun _ st X => ?_⟩
  have h := hf i st X this.2.2
  rw [← W] at h
  exact h
 rw [eS, W] at r6
 rw [M] at r2 r3
 refine ⟨?_, af, Z, Lb G, hf⟩
 unfold Gz
 exact ((((r1.append r2).append r3).append r4).append r5).append r6
end Go.Proofs.YtmaamhgjeampmaaGreat
