/- Plain proofs. No condition. -/
import Derived.Test.YtmaamhgjeampmaaGreatZtP1
set_option maxRecDepth 100000
namespace Go.Proofs.YtmaamhgjeampmaaGreat
set_option linter.unusedVariables false
set_option linter.unusedSimpArgs false
open Go.Aw
def vmv (t : Int) (v : Valve) : Valve := ⟨v.Travel, if v.Want = true then min v.Travel (v.Open + t) else max 0 (v.Open - t), v.Want, v.Stuck⟩
structure VOk (v : Valve) : Prop where
 travel : 1 ≤ v.Travel ∧ v.Travel ≤ 60
 opn : 0 ≤ v.Open ∧ v.Open ≤ v.Travel
 free : v.Stuck = false
theorem VOk.valid {v : Valve} (h : VOk v) : L.zsid v = true := by
 have h1 := h.travel; have h2 := h.opn
 simp only [L.zsid, Bool.and_eq_true, decide_eq_true_eq]; omega
theorem VOk.validP {v : Valve} (h : VOk v) : L.zdpk v = true := h.valid
theorem vmv_ok {v : Valve} (h : VOk v) {t : Int} (ht : 0 ≤ t) : VOk (vmv t v) := by
 have h1 := h.travel; have h2 := h.opn
 refine ⟨h1, ?_, h.free⟩
 unfold vmv
 dsimp only
 split <;> omega
theorem vmv_zero {v : Valve} (h : VOk v) : vmv 0 v = v := by
 have h1 := h.travel; have h2 := h.opn
 obtain ⟨a, b, c, d⟩ := v
 unfold vmv
 dsimp only at h1 h2 ⊢
 congr 1
 split <;> omega
theorem vmv_add {v : Valve} (h : VOk v) {s t : Int} (hs : 0 ≤ s) (ht : 0 ≤ t) : vmv t (vmv s v) = vmv (s + t) v := by
 have h1 := h.travel; have h2 := h.opn
 obtain ⟨a, b, c, d⟩ := v
 unfold vmv
 dsimp only at h1 h2 ⊢
 congr 1
 cases c <;> simp <;> omega
theorem vmv_most {v : Valve} (h : VOk v) {t : Int} (ht : 0 ≤ t) : vmv (min t 60) v = vmv t v := by
 have h1 := h.travel; have h2 := h.opn
 obtain ⟨a, b, c, d⟩ := v
 unfold vmv
 dsimp only at h1 h2 ⊢
 congr 1
 cases c <;> simp <;> omega
theorem step23 {v : Valve} (h : VOk v) : (L.zlky v).1 = vmv 1 v := by
 have h1 := h.travel; have h2 := h.opn
 unfold L.zlky L.zlky.J1
 rw [h.valid, h.free]
 obtain ⟨a, b, c, d⟩ := v
 have := h.free
 dsimp only at this h1 h2 ⊢
 subst this
 simp only [Bool.not_true, Bool.false_eq_true, if_false]
 unfold vmv
 dsimp only
 cases c
 ·simp only [Bool.false_and, Bool.false_eq_true, if_false, Bool.not_false, Bool.true_and]
  split
  ·rename_i hb
   have : 0 < b := by simpa using hb
   rw [wr_id (by omega)]; show (⟨_, _, _, _⟩ : Valve) = _; congr 1; omega
  ·rename_i hb
   have : ¬ 0 < b := by simpa using hb
   show (⟨_, _, _, _⟩ : Valve) = _; congr 1; omega
 ·simp only [Bool.true_and, Bool.not_true, Bool.false_and, Bool.false_eq_true, if_false, if_true]
  split
  ·rename_i hb
   have : b < a := by simpa using hb
   rw [wr_id (by omega)]; show (⟨_, _, _, _⟩ : Valve) = _; congr 1; omega
  ·rename_i hb
   have : ¬ b < a := by simpa using hb
   show (⟨_, _, _, _⟩ : Valve) = _; congr 1; omega
theorem pass23 {v : Valve} (h : VOk v) {t : Int} (ht : 0 ≤ t ∧ t ≤ 400) : L.zbvl v t = some (vmv t v, 0) := by
 have : Ok (L.zbvl v t) fun r => r = (vmv t v, 0) := by
  unfold L.zbvl
  rw [h.valid]
  refine Ok.iteN (fun h => by cases h) fun _ => Ok.iteB (fun hb => ?_) fun _ => ?_
  ·simp at hb; omega
  refine .bind (Q := fun d : Int × Int × Bool × Bool => d = ((vmv t v).Travel, (vmv t v).Open, (vmv t v).Want, (vmv t v).Stuck)) ?_ ?_
  ·refine .loop (S := Int × Int × Bool × Bool × Int) (fun st => 0 ≤ st.2.2.2.2 ∧ st.2.2.2.2 ≤ t ∧ st = ((vmv st.2.2.2.2 v).Travel, (vmv st.2.2.2.2 v).Open, (vmv st.2.2.2.2 v).Want, (vmv st.2.2.2.2 v).Stuck, st.2.2.2.2)) (fun st => t.toNat - st.2.2.2.2.toNat) ⟨by simp, by dsimp only; omega, ?_⟩ (by dsimp only; omega) ?_
   ·dsimp only; rw [vmv_zero h]
   ·rintro ⟨a, b, c, d, i⟩ ⟨h0, h1, he⟩
    dsimp only at h0 h1 he
    have hv : (⟨a, b, c, d⟩ : Valve) = vmv i v := by
     simp only [Prod.mk.injEq] at he
     obtain ⟨rfl, rfl, rfl, rfl, _⟩ := he; rfl
    have hs : (L.zlky ⟨a, b, c, d⟩).1 = vmv (i + 1) v := by rw [hv, step23 (vmv_ok h h0), vmv_add h h0 (by omega)]
    unfold L.zbvl.B2
    dsimp only
    refine Ok.iteD (fun hlt => .pure ?_) fun hge => .pure ?_
    ·rw [hs, wr_id (by omega)]
     exact ⟨⟨by dsimp only; omega, by dsimp only; omega, rfl⟩, by dsimp only; omega⟩
    ·have : i = t := by omega
     subst this
     simp only [Prod.mk.injEq] at he
     obtain ⟨rfl, rfl, rfl, rfl, _⟩ := he
     exact rfl
  ·rintro _ rfl
   exact .pure rfl
 obtain ⟨r, h, rfl⟩ := this
 exact h
theorem passP {v : Valve} (h : VOk v) {t : Int} (ht : 0 ≤ t ∧ t ≤ 400) : L.zwje v t = (vmv t v, 0) := by
 have h1 := h.travel; have h2 := h.opn; have h3 := h.free
 unfold L.zwje
 rw [h.validP, if_neg (by simp), if_neg (by simp; omega)]
 congr 1
 unfold L.zexx L.zexx.J1 L.zhgw
 obtain ⟨a, b, c, d⟩ := v
 dsimp only at h1 h2 h3 ⊢
 subst h3
 have key : ∀ o : Int, (if ((a == a) && ((o == b) && ((c == c) && ((false == false) && true)))) = true then (⟨a, b, c, false⟩ : Valve) else ⟨a, o, c, false⟩) = ⟨a, o, c, false⟩ := by
  intro o
  split
  ·rename_i hb
   have : o = b := by simpa using hb
   rw [this]
  ·rfl
 simp only [key]
 unfold vmv
 dsimp only
 cases c
 ·simp only [Bool.false_eq_true, if_false]
  rw [if_neg (by simp; omega), wr_id (by omega)]
 ·simp only [Bool.false_eq_true, if_false, if_true]
  split
  ·rw [wr_id (by omega)]
  ·rename_i hb
   have : ¬ b < a := by simpa using hb
   rw [wr_id (by omega)]; congr 1; omega
theorem open23 {v : Valve} (h : VOk v) : L.zwdc v = (v.Open == v.Travel) := by unfold L.zwdc; rw [h.valid]; rfl
theorem openP {v : Valve} (h : VOk v) : L.zeio v = (v.Open == v.Travel) := by unfold L.zeio; rw [h.validP]; rfl
theorem closedP {v : Valve} (h : VOk v) : L.zaik v = (v.Open == 0) := by unfold L.zaik; rw [h.validP]; rfl
theorem leftP {v : Valve} (h : VOk v) : L.zvdf v = if v.Want = true then v.Travel - v.Open else v.Open := by
 have h1 := h.travel; have h2 := h.opn; have h3 := h.free
 unfold L.zvdf L.zhgw
 rw [h.validP, h3, if_neg (by simp), if_neg (by simp)]
 split <;> (rw [wr_id (by omega), wr_id (by omega)]; omega)
def VsOk (n : Network) (vs : List Valve) : Prop := vs.length = n.Segments.length + n.Ports.length ∧ ∀ v, v ∈ vs → VOk v
theorem VsOk.pass {n : Network} {vs : List Valve} (h : VsOk n vs) {t : Int} (ht : 0 ≤ t) : VsOk n (vs.map (vmv t)) := by
 refine ⟨by rw [List.length_map]; exact h.1, fun v hv => ?_⟩
 obtain ⟨u, hu, rfl⟩ := List.mem_map.1 hv
 exact vmv_ok (h.2 u hu) ht
theorem VsOk.at {n : Network} {vs : List Valve} (h : VsOk n vs) {k : Nat} {v : Valve} (hk : vs[k]? = some v) : VOk v := h.2 v (mg hk)
theorem VsOk.set {n : Network} {vs : List Valve} (h : VsOk n vs) {k : Nat} {v : Valve} (hv : VOk v) : VsOk n (vs.set k v) := by
 refine ⟨by rw [List.length_set]; exact h.1, fun u hu => ?_⟩
 rcases List.mem_or_eq_of_mem_set hu with h' | rfl
 ·exact h.2 u h'
 ·exact hv
def needs (p : Plan) : List Bool := p.Rates.map (fun r => r != 0) ++ p.Ports.map fun r => r != 0
theorem needs24 {p : Plan} (h1 : p.Rates.length ≤ 1000) (h2 : p.Ports.length ≤ 1000) : L.zyrr p = some ⟨p.Rates.map (fun r => r != 0), p.Ports.map fun r => r != 0⟩ := by
 have : Ok (L.zyrr p) fun r => r = ⟨p.Rates.map (fun r => r != 0), p.Ports.map fun r => r != 0⟩ := by
  unfold L.zyrr
  refine .bind (Q := fun d => d = p.Rates.map fun r => r != 0) ?_ ?_
  ·refine .loop (S := List Bool × Int) (fun st => ∃ k : Nat, st = ((p.Rates.take k).map (fun r => r != 0), (k : Int)) ∧ k ≤ p.Rates.length) (fun st => p.Rates.length - st.2.toNat) ⟨0, rfl, by omega⟩ (by dsimp only; omega) ?_
   rintro _ ⟨k, rfl, hk⟩
   unfold L.zyrr.B4
   refine Ok.iteD (fun hlt => ?_) fun hge => .pure ?_
   ·dsimp only at hlt
    have hx : p.Rates[k]? = some (p.Rates[k]'(by omega)) := gq _
    generalize p.Rates[k]'(by omega) = x at hx
    refine .bind' (.eq (ix_nat hx) (.bind' (.app (by simp; omega) (.pure ⟨⟨k + 1, ?_, by omega⟩, ?_⟩))))
    ·rw [wr_id (by dsimp only; omega), List.take_add_one, hx, List.map_append]; rfl
    ·dsimp only; rw [wr_id (by omega)]; omega
   ·dsimp only at hge
    show (p.Rates.take k).map _ = _
    rw [List.take_of_length_le (by omega)]
  ·rintro _ rfl
   unfold L.zyrr.J1
   refine .bind (Q := fun d => d = p.Ports.map fun r => r != 0) ?_ ?_
   ·refine .loop (S := List Bool × Int) (fun st => ∃ k : Nat, st = ((p.Ports.take k).map (fun r => r != 0), (k : Int)) ∧ k ≤ p.Ports.length) (fun st => p.Ports.length - st.2.toNat) ⟨0, rfl, by omega⟩ (by dsimp only; omega) ?_
    rintro _ ⟨k, rfl, hk⟩
    unfold L.zyrr.B3
    refine Ok.iteD (fun hlt => ?_) fun hge => .pure ?_
    ·dsimp only at hlt
     have hx : p.Ports[k]? = some (p.Ports[k]'(by omega)) := gq _
     generalize p.Ports[k]'(by omega) = x at hx
     refine .bind' (.eq (ix_nat hx) (.bind' (.app (by simp; omega) (.pure ⟨⟨k + 1, ?_, by omega⟩, ?_⟩))))
     ·rw [wr_id (by dsimp only; omega), List.take_add_one, hx, List.map_append]; rfl
     ·dsimp only; rw [wr_id (by omega)]; omega
    ·dsimp only at hge
     show (p.Ports.take k).map _ = _
     rw [List.take_of_length_le (by omega)]
   ·rintro _ rfl
    exact .pure rfl
 obtain ⟨r, h, rfl⟩ := this
 exact h
theorem all24 {a b : List Bool} (h1 : a.length ≤ 1000) (h2 : b.length ≤ 1000) : L.zjdk ⟨a, b⟩ = some (a ++ b) := by
 unfold L.zjdk
 dsimp only
 rw [app?_eq (by simp; omega)]
 show Option.bind (app? ([] ++ a) b) _ = _
 rw [app?_eq (by simp; omega)]; rfl
theorem numbersP {a b : List Bool} (h1 : a.length ≤ 1000) (h2 : b.length ≤ 1000) : L.zvjf ⟨a, b⟩ = some (a ++ b) := all24 h1 h2
theorem flowsP {l : List Int} (h : l.length ≤ 1000) : L.zync l = some (l.map fun r => r != 0) := by
 have : Ok (L.zync l) fun r => r = l.map fun r => r != 0 := by
  unfold L.zync
  refine .bind (.forS (fun k st => st = (l.take k).map fun r => r != 0) rfl ?_ fun st h => h) ?_
  ·rintro k x _ hx rfl
   have := (gs hx).1
   unfold L.zync.B2
   refine .bind' (.app (by simp; omega) (.pure ?_))
   rw [List.take_add_one, hx, List.map_append]; rfl
  ·rintro _ rfl
   exact .pure (by rw [List.take_length])
 obtain ⟨r, h, rfl⟩ := this
 exact h
theorem needP {n : Network} (hn : NetOk n) {p : Plan} (h : FlowOk n p) : L.zoqk n p = some (⟨p.Rates.map (fun r => r != 0), p.Ports.map fun r => r != 0⟩, 0) := by
 have h1 := hn.segs1; have h2 := hn.ports1; have h4 := h.rl; have h5 := h.pl
 unfold L.zoqk
 rw [netCheck hn, flowCheckF hn h, flowsP (by omega), flowsP (by omega)]
 rfl
def VReady (vs : List Valve) (nd : List Bool) : Prop := ∀ k : Nat, nd[k]? = some true → ∃ v, vs[k]? = some v ∧ v.Open = v.Travel ∧ v.Want = true
theorem needs_len {n : Network} {p : Plan} (h1 : p.Rates.length = n.Segments.length) (h2 : p.Ports.length = n.Ports.length) : (needs p).length = n.Segments.length + n.Ports.length := by simp [needs, h1, h2]
structure DeskOk (n : Network) (d : Desk) : Prop where
 vs : VsOk n d.Valves
 plan : PlanOk n d.Plan
 ready : VReady d.Valves (needs d.Plan)
 fed : FedP n d.Plan
theorem valves24 {n : Network} (hn : NetOk n) {vs : List Valve} (h : VsOk n vs) : L.zbne n vs = some 0 := by
 have h1 := hn.segs1; have h2 := hn.ports1; have hl := h.1
 have : Ok (L.zbne n vs) fun r => r = 0 := by
  unfold L.zbne L.zazn
  rw [wr_id (by omega)]
  refine Ok.iteU (fun h => by omega) fun _ => .bind (Q := fun d : Int ⊕ Unit => d = .inr ()) ?_ ?_
  ·refine .loop (fun st : Int => 0 ≤ st ∧ st ≤ (vs.length : Int)) (fun st => vs.length - st.toNat) ⟨by omega, by omega⟩ (by omega) ?_
   rintro st ⟨h0, h4⟩
   obtain ⟨k, rfl⟩ := nat_of h0
   unfold L.zbne.B2
   refine Ok.iteD (fun hlt => ?_) fun _ => .pure rfl
   have hx : vs[k]? = some (vs[k]'(by omega)) := gq _
   refine .bind' (.eq (ix_nat hx) (Ok.iteN (fun hb => ?_) fun _ => .pure ?_))
   ·rw [(h.at hx).valid] at hb; cases hb
   ·rw [wr_id (by omega)]; exact ⟨⟨by omega, by omega⟩, by omega⟩
  ·rintro _ rfl
   exact .pure rfl
 obtain ⟨r, h, rfl⟩ := this
 exact h
theorem check26 {n : Network} (hn : NetOk n) {d : Desk} (h : DeskOk n d) : L.zupr n d = some 0 := by
 have h1 := hn.segs1; have h2 := hn.ports1; have h4 := h.plan.rl; have h5 := h.plan.pl; have hl := h.vs.1
 have hnl := needs_len h4 h5
 have : Ok (L.zupr n d) fun r => r = 0 := by
  unfold L.zupr
  rw [check12 hn, valves24 hn h.vs, check16 hn h.plan.flow, needs24 (by omega) (by omega)]
  refine .bind' (.pure (Ok.iteU (fun h => absurd rfl h) fun _ => .bind' (.pure (Ok.iteU (fun h => absurd rfl h) fun _ => .bind' (.pure (Ok.iteU (fun h => absurd rfl h) fun _ => .bind' (.pure ?_)))))))
  rw [all24 (by simp; omega) (by simp; omega)]
  refine .bind' (.pure (.bind (Q := fun d : Int ⊕ Unit => d = .inr ()) ?_ ?_))
  ·refine .loop (fun st : Int => 0 ≤ st ∧ st ≤ ((needs d.Plan).length : Int)) (fun st => (needs d.Plan).length - st.toNat) ⟨by omega, by omega⟩ (by omega) ?_
   rintro st ⟨h0, h6⟩
   obtain ⟨k, rfl⟩ := nat_of h0
   have j3 : (k : Int) < ((needs d.Plan).length : Int) → Ok (L.zupr.J3 (k : Int) false) (Sum.elim (fun s : Int => (0 ≤ s ∧ s ≤ ((needs d.Plan).length : Int)) ∧ (needs d.Plan).length - s.toNat < (needs d.Plan).length - ((k : Nat) : Int).toNat) fun d => d = .inr ()) := by
    intro hk
    unfold L.zupr.J3
    refine Ok.iteB (fun h => by cases h) fun _ => .pure ?_
    rw [wr_id (by omega)]; exact ⟨⟨by omega, by omega⟩, by omega⟩
   unfold L.zupr.B2
   refine Ok.iteD (fun hlt => ?_) fun _ => .pure rfl
   have hlt' : (k : Int) < ((needs d.Plan).length : Int) := hlt
   have hx : (needs d.Plan)[k]? = some ((needs d.Plan)[k]'(by omega)) := gq _
   refine .bind' (.eq (ix_nat hx) (Ok.iteB (fun hb => ?_) fun _ => j3 hlt'))
   dsimp only at hb
   obtain ⟨v, hv, a, b⟩ := h.ready k (by rw [hx, hb])
   refine .bind' (.eq (ix_nat hv) ?_)
   dsimp only
   rw [open23 (h.vs.at hv), a, b]
   simp only [beq_self_eq_true, Bool.not_true, Bool.false_eq_true, if_false]
   exact j3 hlt'
  ·rintro _ rfl
   simp only [Sum.elim_inr]
   unfold L.zupr.J1
   rw [fed26 hn h.plan.flow h.fed]
   exact .bind' (.pure (Ok.iteN (fun h => by cases h) fun _ => .pure rfl))
 obtain ⟨r, h, rfl⟩ := this
 exact h
theorem containsFunc_Valve {s : List Valve} {g : Valve → Option Bool} (hg : ∀ (k : Nat) (x : Valve), s[k]? = some x → g x = some false) : L.zfxq s g = some false := by
 have : Ok (L.zfxq s g) fun r => r = false := by
  unfold L.zfxq
  refine .bind (Q := fun r => r = -1) ?_ ?_
  ·unfold L.znus
   refine .bind' (.forL (fun k _ => True) (fun r => False) trivial ?_ ?_ fun _ h => h.elim)
   ·intro k x _ hx _
    unfold L.znus.B2
    exact .bind' (.eq (hg k x hx) (Ok.iteB (fun h => by cases h) fun _ => .pure trivial))
   ·intro _ _
    exact .pure rfl
  ·rintro _ rfl
   exact .pure rfl
 obtain ⟨r, h, rfl⟩ := this
 exact h
theorem checkP {n : Network} (hn : NetOk n) {d : Desk} (h : DeskOk n d) : L.zkzk n d = some 0 := by
 have h1 := hn.segs1; have h2 := hn.ports1; have h4 := h.plan.rl; have h5 := h.plan.pl; have hl := h.vs.1
 have hnl := needs_len h4 h5
 have : Ok (L.zkzk n d) fun r => r = 0 := by
  unfold L.zkzk L.zwom
  rw [netCheck hn, wr_id (by omega), containsFunc_Valve fun k x hx => by unfold L.zfpn; rw [(h.vs.at hx).validP]; rfl]
  refine .bind' (.pure (Ok.iteU (fun h => absurd rfl h) fun _ => Ok.iteU (fun h => by omega) fun _ => .bind' (.pure ?_)))
  unfold L.zkzk.J1
  rw [flowCheckF hn h.plan.flow, needP hn h.plan.flow]
  refine Ok.iteB (fun h => by cases h) fun _ => .bind' (.pure (Ok.iteU (fun h => absurd rfl h) fun _ => .bind' (.pure (Ok.iteU (fun h => absurd rfl h) fun _ => ?_))))
  rw [numbersP (by simp; omega) (by simp; omega)]
  refine .bind' (.pure (.bind' (.forI (fun _ _ => True) (fun _ => False) trivial ?_ ?_ fun _ h => h.elim)))
  ·intro k _ hk _
   have hk' : k < (needs d.Plan).length := hk
   unfold L.zkzk.B3 L.zkzk.J4
   have hx : (needs d.Plan)[k]? = some ((needs d.Plan)[k]'(by omega)) := gq _
   refine .bind' (.eq (ix_nat hx) (Ok.iteB (fun hb => ?_) fun _ => Ok.iteB (fun h => by cases h) fun _ => .pure trivial))
   dsimp only at hb
   obtain ⟨v, hv, a, b⟩ := h.ready k (by rw [hx, hb])
   refine .bind' (.eq (ix_nat hv) ?_)
   dsimp only
   unfold L.zayo
   rw [openP (h.vs.at hv), a, b]
   simp only [beq_self_eq_true, Bool.true_and, Bool.not_true]
   exact Ok.iteB (fun h => by cases h) fun _ => .pure trivial
  ·intro _ _
   simp only [Sum.elim_inl]
   unfold L.zkzk.J2
   rw [idles_ok hn h.plan.flow h.fed]
   exact .bind' (.pure (Ok.iteB (fun h => by cases h) fun _ => .pure rfl))
 obtain ⟨r, h, rfl⟩ := this
 exact h
def sOpen (i : Nat) : Step := ⟨1, (i : Int), 0, ⟨0, 0, [], 0⟩⟩
def sClose (i : Nat) : Step := ⟨2, (i : Int), 0, ⟨0, 0, [], 0⟩⟩
def sStart (i : Nat) : Step := ⟨3, (i : Int), 0, ⟨0, 0, [], 0⟩⟩
def sStop (i : Nat) : Step := ⟨4, (i : Int), 0, ⟨0, 0, [], 0⟩⟩
def sFlow (u : Path) (v : Int) : Step := ⟨5, 0, v, ⟨u.In, u.Out, u.Hops, 0⟩⟩
def sWait (t : Int) : Step := ⟨6, 0, t, ⟨0, 0, [], 0⟩⟩
theorem copyPlan25 {p : Plan} (h1 : p.Rates.length ≤ 1000) (h2 : p.Ports.length ≤ 1000) (h3 : p.Pumps.length ≤ 1000) : L.zbxx p = some p := by
 unfold L.zbxx
 rw [app?_eq (by simp; omega), app?_eq (by simp; omega), app?_eq (by simp; omega)]; rfl
theorem copy25 {x : Path} (h : x.Hops.length ≤ 1000) : L.zkfu x = some x := by
 unfold L.zkfu; rw [app?_eq (by simp; omega)]; rfl
theorem copy26 {n : Network} (hn : NetOk n) {d : Desk} (h : DeskOk n d) : L.zryh d = some d := by
 have h1 := hn.segs1; have h2 := hn.ports1; have h3 := hn.sts1; have h4 := h.plan.rl; have h5 := h.plan.pl; have h6 := h.plan.ml; have hl := h.vs.1
 unfold L.zryh
 rw [app?_eq (by simp; omega), copyPlan25 (by omega) (by omega) (by omega)]; rfl
theorem apply_head {n : Network} (hn : NetOk n) {d : Desk} (h : DeskOk n d) {s : Step} (hs : L.zrblx s = true) {P : Desk × Int → Prop} (k : Ok (if (s.Kind == 1) = true then L.zvix.J1 n d s (s.Kind == 1) else L.zvix.J1 n d s (s.Kind == 2)) P) : Ok (L.zvix n d s) P := by
 unfold L.zvix
 rw [check26 hn h, hs]
 exact .bind' (.pure (Ok.iteU (fun h => absurd rfl h) fun _ => Ok.iteN (fun h => by cases h) fun _ => k))
theorem vready_pass {n : Network} {vs : List Valve} (h : VsOk n vs) {nd : List Bool} (hr : VReady vs nd) {t : Int} (ht : 0 ≤ t) : VReady (vs.map (vmv t)) nd := by
 intro k hk
 obtain ⟨v, h1, h2, h3⟩ := hr k hk
 refine ⟨vmv t v, by rw [List.getElem?_map, h1]; rfl, ?_, h3⟩
 have := (h.at h1).opn
 unfold vmv; dsimp only; rw [if_pos h3]; omega
theorem DeskOk.pass {n : Network} {d : Desk} (h : DeskOk n d) {t : Int} (ht : 0 ≤ t) : DeskOk n ⟨d.Valves.map (vmv t), d.Plan⟩ :=
 ⟨h.vs.pass ht, h.plan, vready_pass h.vs h.ready ht, h.fed⟩
theorem apply_wait {n : Network} (hn : NetOk n) {d : Desk} (h : DeskOk n d) {t : Int} (ht : 1 ≤ t ∧ t ≤ 100) : L.zvix n d (sWait t) = some (⟨d.Valves.map (vmv t), d.Plan⟩, 0) := by
 have h1 := hn.segs1; have h2 := hn.ports1; have hl := h.vs.1
 have : Ok (L.zvix n d (sWait t)) fun r => r = (⟨d.Valves.map (vmv t), d.Plan⟩, 0) := by
  refine apply_head hn h (by rfl) (Ok.iteE (fun h => by cases h) fun _ => ?_)
  unfold L.zvix.J1
  refine Ok.iteE (fun h => by cases h) fun _ => Ok.iteE (fun h => by cases h) fun _ => ?_
  unfold L.zvix.J2
  refine Ok.iteE (fun h => by cases h) fun _ => Ok.iteE (fun h => by cases h) fun _ => Ok.iteB (fun hb => ?_) fun _ => ?_
  ·rw [show (sWait t).Value = t from rfl, Bool.or_eq_true, decide_eq_true_eq, decide_eq_true_eq] at hb; omega
  rw [copy26 hn h]
  refine .bind' (.pure (.bind (Q := fun vs => vs = d.Valves.map (vmv t)) ?_ ?_))
  ·refine .loop (S := List Valve × Int) (fun st => ∃ k : Nat, st = ((d.Valves.take k).map (vmv t) ++ d.Valves.drop k, (k : Int)) ∧ k ≤ d.Valves.length) (fun st => d.Valves.length - st.2.toNat) ⟨0, rfl, by omega⟩ (by dsimp only; omega) ?_
   rintro _ ⟨k, rfl, hk⟩
   have hlen : ((d.Valves.take k).map (vmv t) ++ d.Valves.drop k).length = d.Valves.length := by simp; omega
   unfold L.zvix.B4
   refine Ok.iteD (fun hlt => ?_) fun hge => .pure ?_
   ·dsimp only at hlt
    rw [hlen] at hlt
    have hx : d.Valves[k]? = some (d.Valves[k]'(by omega)) := gq _
    generalize d.Valves[k]'(by omega) = v at hx
    have hg : ((d.Valves.take k).map (vmv t) ++ d.Valves.drop k)[k]? = some v := by
     rw [List.getElem?_append_right (by simp; omega)]; simp [Nat.min_eq_left hk, hx]
    refine .bind' (.eq (ix_nat hg) ?_)
    dsimp only
    rw [show (sWait t).Value = t from rfl, pass23 (h.vs.at hx) (by omega)]
    refine .bind' (.pure (.pure ⟨⟨k + 1, ?_, by omega⟩, ?_⟩))
    ·rw [wr_id (by omega)]
     congr 1
     refine List.ext_getElem? fun j => ?_
     rw [get_set]
     split
     ·rename_i hj
      rw [← hj.1, List.getElem?_append_left (by simp; omega), List.getElem?_map, List.getElem?_take, if_pos (by omega), hx]; rfl
     ·rename_i hj
      rw [hlen] at hj
      by_cases hjk : j < k
      ·rw [List.getElem?_append_left (by simp; omega), List.getElem?_append_left (by simp; omega), List.getElem?_map, List.getElem?_map, List.getElem?_take, List.getElem?_take, if_pos hjk, if_pos (by omega)]
      ·have : k < j := by omega
       rw [List.getElem?_append_right (by simp; omega), List.getElem?_append_right (by simp; omega)]
       simp only [List.length_map, List.length_take, List.getElem?_drop, Nat.min_eq_left hk, Nat.min_eq_left (show k + 1 ≤ d.Valves.length by omega)]
       congr 1; omega
    ·dsimp only; rw [wr_id (by omega)]; omega
   ·dsimp only at hge
    rw [hlen] at hge
    show (d.Valves.take k).map (vmv t) ++ d.Valves.drop k = _
    rw [List.take_of_length_le (by omega), List.drop_eq_nil_of_le (by omega), List.append_nil]
  ·rintro _ rfl
   exact .pure rfl
 obtain ⟨r, h, rfl⟩ := this
 exact h
def want (b : Bool) (v : Valve) : Valve := ⟨v.Travel, v.Open, b, v.Stuck⟩
theorem want_ok {v : Valve} (h : VOk v) (b : Bool) : VOk (want b v) := ⟨h.travel, h.opn, h.free⟩
theorem apply_turn {n : Network} (hn : NetOk n) {d : Desk} (h : DeskOk n d) {i : Nat} {v : Valve} (hv : d.Valves[i]? = some v) (b : Bool) (hb : b = false → (needs d.Plan)[i]? = some false) :
  L.zvix n d (if b = true then sOpen i else sClose i) = some (⟨d.Valves.set i (want b v), d.Plan⟩, 0) := by
 have h1 := hn.segs1; have h2 := hn.ports1; have hl := h.vs.1; have h4 := h.plan.rl; have h5 := h.plan.pl
 have hil := (gs hv).1
 have : Ok (L.zvix n d (if b = true then sOpen i else sClose i)) fun r => r = (⟨d.Valves.set i (want b v), d.Plan⟩, 0) := by
  have j1 : ∀ s : Step, s.Index = (i : Int) → (s.Kind == 1) = b → Ok (L.zdmi.J1 d s false) fun r => r = (⟨d.Valves.set i (want b v), d.Plan⟩, 0) := by
   intro s hs hk
   unfold L.zdmi.J1
   rw [copy26 hn h, hs, hk]
   refine Ok.iteB (fun h => by cases h) fun _ => .bind' (.pure (.bind' (.eq (ix_nat hv) (.pure ?_))))
   unfold L.zfax
   rw [(h.vs.at hv).valid]; rfl
  cases b
  ·refine apply_head hn h (by rfl) (Ok.iteE (fun h => by cases h) fun _ => ?_)
   unfold L.zvix.J1
   refine Ok.iteE (fun _ => .bind (Q := fun r => r = (⟨d.Valves.set i (want false v), d.Plan⟩, 0)) ?_ (by rintro _ rfl; exact .pure rfl)) fun h => absurd rfl h
   unfold L.zdmi
   refine Ok.iteB (fun hb => ?_) fun _ => Ok.iteE (fun _ => ?_) fun h => absurd rfl h
   ·simp [sClose] at hb; omega
   rw [needs24 (by omega) (by omega)]
   refine .bind' (.pure ?_)
   rw [all24 (by simp; omega) (by simp; omega)]
   exact .bind' (.pure (.bind' (.eq (ix_nat (hb rfl)) (j1 _ rfl rfl))))
  ·refine apply_head hn h (by rfl) (Ok.iteE (fun _ => ?_) fun h => absurd rfl h)
   unfold L.zvix.J1
   refine Ok.iteE (fun _ => .bind (Q := fun r => r = (⟨d.Valves.set i (want true v), d.Plan⟩, 0)) ?_ (by rintro _ rfl; exact .pure rfl)) fun h => absurd rfl h
   unfold L.zdmi
   refine Ok.iteB (fun hb => ?_) fun _ => Ok.iteE (fun h => by cases h) fun h => j1 _ rfl rfl
   simp [sOpen] at hb; omega
 obtain ⟨r, h, rfl⟩ := this
 exact h
theorem apply_pump {n : Network} (hn : NetOk n) {d : Desk} (h : DeskOk n d) {i : Nat} (hi : i < n.Stations.length) (b : Bool) (hf : FedP n ⟨d.Plan.Rates, d.Plan.Ports, d.Plan.Pumps.set i b⟩) :
  L.zvix n d (if b = true then sStart i else sStop i) = some (⟨d.Valves, ⟨d.Plan.Rates, d.Plan.Ports, d.Plan.Pumps.set i b⟩⟩, 0) := by
 have h6 := h.plan.ml
 have hp : PlanOk n ⟨d.Plan.Rates, d.Plan.Ports, d.Plan.Pumps.set i b⟩ := ⟨h.plan.rl, h.plan.pl, by dsimp only; rw [List.length_set]; exact h6, h.plan.rng, h.plan.prt, h.plan.bal, h.plan.dir⟩
 have : Ok (L.zvix n d (if b = true then sStart i else sStop i)) fun r => r = (⟨d.Valves, ⟨d.Plan.Rates, d.Plan.Ports, d.Plan.Pumps.set i b⟩⟩, 0) := by
  have pump : ∀ s : Step, s.Index = (i : Int) → (s.Kind == 3) = b → Ok (L.zhuq n d s) fun r => r = (⟨d.Valves, ⟨d.Plan.Rates, d.Plan.Ports, d.Plan.Pumps.set i b⟩⟩, 0) := by
   intro s hs hk
   unfold L.zhuq
   rw [hs, hk, copy26 hn h]
   refine Ok.iteB (fun hb => ?_) fun _ => .bind' (.pure (.bind' (.eq (ix_nat (gq (by omega))) ?_)))
   ·simp at hb; omega
   dsimp only
   rw [fed26 hn hp.flow hf]
   exact .bind' (.pure (Ok.iteN (fun h => by cases h) fun _ => .pure rfl))
  cases b
  ·refine apply_head hn h (by rfl) (Ok.iteE (fun h => by cases h) fun _ => ?_)
   unfold L.zvix.J1
   refine Ok.iteE (fun h => by cases h) fun _ => Ok.iteE (fun h => by cases h) fun _ => ?_
   unfold L.zvix.J2
   refine Ok.iteE (fun _ => .bind (pump _ rfl rfl) (by rintro _ rfl; exact .pure rfl)) fun h => absurd rfl h
  ·refine apply_head hn h (by rfl) (Ok.iteE (fun h => by cases h) fun _ => ?_)
   unfold L.zvix.J1
   refine Ok.iteE (fun h => by cases h) fun _ => Ok.iteE (fun _ => ?_) fun h => absurd rfl h
   unfold L.zvix.J2
   refine Ok.iteE (fun _ => .bind (pump _ rfl rfl) (by rintro _ rfl; exact .pure rfl)) fun h => absurd rfl h
 obtain ⟨r, h, rfl⟩ := this
 exact h
theorem valid25 {n : Network} {up : Bool} {p : Plan} (hr : Res n up p.Rates p.Ports) {x : Path} (hx : PathOk n p x) : L.zzsn n x = some true := by
 have : Ok (L.zzsn n x) fun r => r = true := by
  obtain ⟨i, o, p0, po, y0, y1, nd, e1, e2, e3, e4, e5, e6, e7, e8, w, e9, e10, e11, e12, e13⟩ := hx
  have hil := (gs e3).1
  have hol := (gs e4).1
  have hne : i ≠ o := by rintro rfl; rw [e5] at e7; simp at e7; omega
  unfold L.zzsn
  refine Ok.iteB (fun hb => ?_) fun _ => ?_
  ·simp [e1, e2] at hb; omega
  rw [e1]
  refine .bind' (.eq (ix_nat e3) (.bind (Q := fun d : Bool ⊕ Int => d = .inr (nd x.Hops.length)) ?_ ?_))
  ·refine .loop (S := Int × List Int × Int) (fun st => ∃ j : Nat, st = (nd j, (List.range (j + 1)).map nd, (j : Int)) ∧ j ≤ x.Hops.length) (fun st => x.Hops.length - st.2.2.toNat) ⟨0, by simp [e9], by omega⟩ (by dsimp only; omega) ?_
   rintro _ ⟨j, rfl, hjl⟩
   unfold L.zzsn.B2
   refine Ok.iteD (fun hlt => ?_) fun hge => .pure ?_
   ·dsimp only at hlt
    have hj : x.Hops[j]? = some (x.Hops[j]'(by omega)) := gq _
    generalize x.Hops[j]'(by omega) = h at hj
    obtain ⟨k, s, r, q1, q2, q3, q4⟩ := w.hop j h hj
    have hkl := (gs q2).1
    refine .bind' (.eq (ix_nat hj) ?_)
    have j4 : Ok (L.zzsn.J4 n x (nd j, (List.range (j + 1)).map nd, (j : Int)) false) (Sum.elim (fun st : Int × List Int × Int => (∃ j : Nat, st = (nd j, (List.range (j + 1)).map nd, (j : Int)) ∧ j ≤ x.Hops.length) ∧ x.Hops.length - st.2.2.toNat < x.Hops.length - ((j : Nat) : Int).toNat) fun d => d = .inr (nd x.Hops.length)) := by
     unfold L.zzsn.J4
     refine Ok.iteB (fun h => by cases h) fun _ => .bind' (.eq (ix_nat hj) (.bind (Q := fun r : Int × Int => r = (nd j, nd (j + 1))) ?_ ?_))
     ·unfold L.ztgl
      rw [q1]
      refine .bind' (.eq (ix_nat q2) ?_)
      rcases q4 with ⟨b, _, a1, a2⟩ | ⟨b, _, a1, a2⟩
      ·rw [b]; exact Ok.iteB (fun h => by cases h) fun _ => .pure (by dsimp only; rw [a1, a2])
      ·rw [b]; exact Ok.iteB (fun _ => .pure (by dsimp only; rw [a1, a2])) fun h => by cases h
     rintro _ rfl
     refine Ok.iteU (fun h => absurd rfl h) fun _ => .bind (Q := fun d : Bool ⊕ Unit => d = .inr ()) ?_ ?_
     ·refine .loop (fun st : Int => 0 ≤ st ∧ st ≤ (((List.range (j + 1)).map nd).length : Int)) (fun st => ((List.range (j + 1)).map nd).length - st.toNat) ⟨by omega, by omega⟩ (by simp; omega) ?_
      rintro st ⟨h0, h1⟩
      obtain ⟨m, rfl⟩ := nat_of h0
      unfold L.zzsn.B6
      refine Ok.iteD (fun hlt => ?_) fun _ => .pure rfl
      dsimp only at hlt
      simp only [List.length_map, List.length_range] at hlt h1
      have hm : ((List.range (j + 1)).map nd)[m]? = some (nd m) := by rw [List.getElem?_map, List.getElem?_range (by omega)]; rfl
      refine .bind' (.eq (ix_nat hm) (Ok.iteE (fun he => ?_) fun _ => .pure ?_))
      ·exact absurd he (w.mono hr (j + 1) m (by omega) (by omega)).ne
      ·rw [wr_id (by omega)]
       simp only [List.length_map, List.length_range]
       exact ⟨⟨by omega, by omega⟩, by omega⟩
     ·rintro _ rfl
      simp only [Sum.elim_inr]
      unfold L.zzsn.J5
      refine .bind' (.app (by simp; omega) ?_)
      unfold L.zzsn.J3
      refine .pure ⟨⟨j + 1, ?_, by omega⟩, ?_⟩
      ·dsimp only
       rw [wr_id (by omega), List.range_succ (n := j + 1), List.map_append]; rfl
      ·dsimp only; rw [wr_id (by omega)]; omega
    refine Ok.iteD (fun h => by dsimp only at h; omega) fun _ => ?_
    dsimp only
    rw [show decide (h.Segment ≥ (n.Segments.length : Int)) = false from decide_eq_false (by omega)]
    exact j4
   ·dsimp only at hge
    have : j = x.Hops.length := by omega
    subst this; rfl
  ·rintro _ rfl
   simp only [Sum.elim_inr]
   unfold L.zzsn.J1
   rw [e2]
   exact .bind' (.eq (ix_nat e4) (.pure (by dsimp only; rw [e10]; simp)))
 obtain ⟨r, h, rfl⟩ := this
 exact h
structure PReady (n : Network) (vs : List Valve) (u : Path) : Prop where
 hop : ∀ (h : Hop), h ∈ u.Hops → ∃ (k : Nat) (v : Valve), h.Segment = (k : Int) ∧ vs[k]? = some v ∧ v.Open = v.Travel ∧ v.Want = true
 inp : ∃ (i : Nat) (v : Valve), u.In = (i : Int) ∧ vs[n.Segments.length + i]? = some v ∧ v.Open = v.Travel ∧ v.Want = true
 out : ∃ (i : Nat) (v : Valve), u.Out = (i : Int) ∧ vs[n.Segments.length + i]? = some v ∧ v.Open = v.Travel ∧ v.Want = true
theorem ready26 {n : Network} (hn : NetOk n) {d : Desk} (hv : VsOk n d.Valves) {u : Path} (h : PReady n d.Valves u) (hl : u.Hops.length ≤ 1000) : L.zrxf n d u = some true := by
 have h1 := hn.segs1; have h2 := hn.ports1; have hvl := hv.1
 obtain ⟨i, vi, a1, a2, a3, a4⟩ := h.inp
 obtain ⟨o, vo, b1, b2, b3, b4⟩ := h.out
 have hil := (gs a2).1
 have hol := (gs b2).1
 have : Ok (L.zrxf n d u) fun r => r = true := by
  unfold L.zrxf
  rw [a1, b1, wr_id (by omega), wr_id (by omega)]
  refine .bind (Q := fun l : List Int => l.length ≤ 1002 ∧ ∀ x, x ∈ l → ∃ (k : Nat) (v : Valve), x = (k : Int) ∧ d.Valves[k]? = some v ∧ v.Open = v.Travel ∧ v.Want = true) ?_ ?_
  ·refine .loop (S := List Int × Int) (fun st => ∃ j : Nat, st.2 = (j : Int) ∧ j ≤ u.Hops.length ∧ st.1.length = j + 2 ∧ ∀ x, x ∈ st.1 → ∃ (k : Nat) (v : Valve), x = (k : Int) ∧ d.Valves[k]? = some v ∧ v.Open = v.Travel ∧ v.Want = true) (fun st => u.Hops.length - st.2.toNat)
    ⟨0, rfl, by omega, rfl, fun x hx => ?_⟩ (by dsimp only; omega) ?_
   ·rcases List.mem_cons.1 hx with rfl | hx
    ·exact ⟨_, vi, by simp, a2, a3, a4⟩
    ·have : x = (n.Segments.length : Int) + (o : Int) := by simpa using hx
     subst this
     exact ⟨_, vo, by simp, b2, b3, b4⟩
   ·rintro ⟨l, _⟩ ⟨j, rfl, hj, hll, hm⟩
    dsimp only at hll hm
    unfold L.zrxf.B5
    refine Ok.iteD (fun hlt => ?_) fun hge => .pure ⟨by dsimp only at *; omega, hm⟩
    dsimp only at hlt
    have hx : u.Hops[j]? = some (u.Hops[j]'(by omega)) := gq _
    generalize u.Hops[j]'(by omega) = x at hx
    refine .bind' (.eq (ix_nat hx) (.bind' (.app (by simp; omega) (.pure ⟨⟨j + 1, ?_, by omega, by simp; omega, fun y hy => ?_⟩, ?_⟩))))
    ·dsimp only; rw [wr_id (by omega)]; omega
    ·rcases List.mem_append.1 hy with hy | hy
     ·exact hm y hy
     ·have : y = x.Segment := by simpa using hy
      subst this
      exact h.hop x (mg hx)
    ·dsimp only; rw [wr_id (by omega)]; omega
  ·rintro l ⟨hll, hm⟩
   unfold L.zrxf.J1
   refine .bind (Q := fun d : Bool ⊕ Unit => d = .inr ()) ?_ ?_
   ·refine .loop (fun st : Int => 0 ≤ st ∧ st ≤ (l.length : Int)) (fun st => l.length - st.toNat) ⟨by omega, by omega⟩ (by omega) ?_
    rintro st ⟨h0, h4⟩
    obtain ⟨k, rfl⟩ := nat_of h0
    unfold L.zrxf.B3
    refine Ok.iteD (fun hlt => ?_) fun _ => .pure rfl
    have hx : l[k]? = some (l[k]'(by omega)) := gq _
    obtain ⟨m, v, c1, c2, c3, c4⟩ := hm _ (mg hx)
    refine .bind' (.eq (ix_nat hx) ?_)
    dsimp only
    rw [c1]
    refine .bind' (.eq (ix_nat c2) ?_)
    dsimp only
    rw [open23 (hv.at c2), c3, c4]
    simp only [beq_self_eq_true, Bool.not_true, Bool.false_eq_true, if_false]
    unfold L.zrxf.J4
    refine Ok.iteB (fun h => by cases h) fun _ => .pure ?_
    rw [wr_id (by omega)]; exact ⟨⟨by omega, by omega⟩, by omega⟩
   ·rintro _ rfl
    exact .pure rfl
 obtain ⟨r, h, rfl⟩ := this
 exact h
theorem PathOk.hop {n : Network} {up : Bool} {p : Plan} (hr : Res n up p.Rates p.Ports) {u : Path} (hu : PathOk n p u) {j : Nat} {h : Hop} (hj : u.Hops[j]? = some h) :
  ∃ (k : Nat) (s : Segment) (r : Int), h.Segment = (k : Int) ∧ n.Segments[k]? = some s ∧ p.Rates[k]? = some r ∧ (h.Back = false ∧ 0 < r ∨ h.Back = true ∧ r < 0) ∧ (∀ v, fs k u v = sgn v h) ∧ ∀ v, hsum v k (u.Hops.take j) = 0 := by
 obtain ⟨i, o, p0, po, y0, y1, nd, e1, e2, e3, e4, e5, e6, e7, e8, w, e9, e10, e11, e12, e13⟩ := hu
 obtain ⟨k, s, r, q1, q2, q3, q4⟩ := w.hop j h hj
 have once : ∀ (j' : Nat) (y : Hop), j' ≠ j → u.Hops[j']? = some y → y.Segment ≠ (k : Int) := fun j' y hj' hy he => hj' (w.once hr hy hj (he.trans q1.symm))
 refine ⟨k, s, r, q1, q2, q3, ?_, fun v => hsum_one hj q1 once, fun v => hsum_zero fun y hy => ?_⟩
 ·rcases q4 with ⟨b, q, _⟩ | ⟨b, q, _⟩
  ·exact .inl ⟨b, q⟩
  ·exact .inr ⟨b, q⟩
 ·obtain ⟨m, hm⟩ := List.getElem?_of_mem hy
  have hml := (gs hm).1
  rw [List.length_take] at hml
  rw [List.getElem?_take] at hm
  split at hm
  ·exact once m y (by omega) hm
  ·cases hm
theorem PathOk.ends {n : Network} {p : Plan} {u : Path} (hu : PathOk n p u) : ∃ (i o : Nat) (y0 y1 : Int), u.In = (i : Int) ∧ u.Out = (o : Int) ∧ i ≠ o ∧ i < n.Ports.length ∧ o < n.Ports.length ∧ p.Ports[i]? = some y0 ∧ 0 < y0 ∧ p.Ports[o]? = some y1 ∧ y1 < 0 := by
 obtain ⟨i, o, p0, po, y0, y1, nd, e1, e2, e3, e4, e5, e6, e7, e8, w, e9, e10, e11, e12, e13⟩ := hu
 exact ⟨i, o, y0, y1, e1, e2, by rintro rfl; rw [e5] at e7; simp at e7; omega, (gs e3).1, (gs e4).1, e5, e6, e7, e8⟩
theorem apply_flow {n : Network} (hn : NetOk n) {up : Bool} {p : Plan} (hp : PlanOk n p) {l : List Path} (hd : Divided n up p l) {rs : List Int} (hs : Part l rs) {pumps : List Bool} {vs : List Valve} {i : Nat} {u : Path} {r v : Int}
  (hi : l[i]? = some u) (hr : rs[i]? = some r) (hv : v ≠ 0) (hb : 0 ≤ r + v ∧ r + v ≤ u.Rate) (hk : DeskOk n ⟨vs, planOf n l rs pumps⟩) (hpr : PReady n vs u) (hf : FedP n (planOf n l (rs.set i (r + v)) pumps)) :
  L.zvix n ⟨vs, planOf n l rs pumps⟩ (sFlow u v) = some (⟨vs, planOf n l (rs.set i (r + v)) pumps⟩, 0) := by
 have h1 := hn.segs1; have h2 := hn.ports1
 have hu := hd.paths u (mg hi)
 have hus := hu.small
 have hrr := hs.rng i u r hi hr
 have hs' := hs.set hi hb
 have hml : pumps.length = n.Stations.length := hk.plan.ml
 have hp' := planOf_ok hp hd hs' hml
 have tS : ∀ k, tot (fs k) l (rs.set i (r + v)) = tot (fs k) l rs + fs k u v := fun k => by rw [tot_set hi hr, FS_add]; omega
 have tP : ∀ k, tot (FP k) l (rs.set i (r + v)) = tot (FP k) l rs + FP k u v := fun k => by rw [tot_set hi hr, FP_add]; omega
 obtain ⟨a, o, y0, y1, ea, eo, hne, hal, hol, ya, ya0, yo, yo0⟩ := hu.ends
 have pa := port_in hd hs ya; have po := port_in hd hs yo
 have pa' := port_in hd hs' ya; have po' := port_in hd hs' yo
 have fa : FP a u v = v := by unfold FP portOf rated; dsimp only; rw [if_pos ea, if_neg (by omega)]; omega
 have fo : FP o u v = -v := by unfold FP portOf rated; dsimp only; rw [if_neg (by omega), if_pos eo]; omega
 have f0 : ∀ k, k ≠ a → k ≠ o → FP k u v = 0 := fun k hka hko => by unfold FP portOf rated; dsimp only; rw [if_neg (by omega), if_neg (by omega)]; rfl
 have ba := hp.prt a _ ya; have bo := hp.prt o _ yo
 rw [tP, fa] at pa'; rw [tP, fo] at po'
 have : Ok (L.zvix n ⟨vs, planOf n l rs pumps⟩ (sFlow u v)) fun z => z = (⟨vs, planOf n l (rs.set i (r + v)) pumps⟩, 0) := by
  refine apply_head hn hk (by rfl) (Ok.iteE (fun h => by cases h) fun _ => ?_)
  unfold L.zvix.J1
  refine Ok.iteE (fun h => by cases h) fun _ => Ok.iteE (fun h => by cases h) fun _ => ?_
  unfold L.zvix.J2
  refine Ok.iteE (fun h => by cases h) fun _ => Ok.iteE (fun _ => .bind (Q := fun z => z = (⟨vs, planOf n l (rs.set i (r + v)) pumps⟩, 0)) ?_ (by rintro _ rfl; exact .pure rfl)) fun h => absurd rfl h
  unfold L.zkvy
  refine Ok.iteB (fun hb => ?_) fun _ => ?_
  ·rw [show (sFlow u v).Value = v from rfl, Bool.or_eq_true, decide_eq_true_eq, decide_eq_true_eq] at hb; omega
  rw [show (sFlow u v).Path = ⟨u.In, u.Out, u.Hops, 0⟩ from rfl, show (sFlow u v).Value = v from rfl, copy25 (by dsimp only; omega)]
  refine .bind' (.pure ?_)
  dsimp only
  rw [wr_id (x := 0 - v) (by omega)]
  have hval : L.zouh n ⟨u.In, u.Out, u.Hops, max v (0 - v)⟩ = some true := by
   have hv25 := valid25 hd.res (hu.rated (r := max v (0 - v)) (by omega))
   have : Ok (L.zouh n ⟨u.In, u.Out, u.Hops, max v (0 - v)⟩) fun r => r = true := by
    unfold L.zouh L.zouh.J1
    rw [check12 hn]
    exact .bind' (.pure (Ok.iteE (fun _ => .bind' (.eq hv25 (.pure rfl))) fun h => absurd rfl h))
   obtain ⟨z, h, rfl⟩ := this
   exact h
  rw [hval, copy26 hn hk]
  refine .bind' (.pure (Ok.iteN (fun h => by cases h) fun _ => .bind' (.pure ?_)))
  rw [ready26 hn hk.vs (u := ⟨u.In, u.Out, u.Hops, max v (0 - v)⟩) ⟨hpr.hop, hpr.inp, hpr.out⟩ (by dsimp only; omega)]
  refine .bind' (.pure (Ok.iteN (fun h => by cases h) fun _ => ?_))
  rw [ea, eo]
  have ga : (portsOf n l rs)[a]? = some (tot (FP a) l rs) := portsOf_at hal
  have go : (portsOf n l rs)[o]? = some (tot (FP o) l rs) := portsOf_at hol
  have gl := portsOf_len n l rs
  refine .bind' (.eq (ix_nat (l := (planOf n l rs pumps).Ports) ga) ?_)
  dsimp only
  have go1 : ((portsOf n l rs).set a (wr (tot (FP a) l rs + v)))[o]? = some (tot (FP o) l rs) := by rw [List.getElem?_set_ne hne]; exact go
  refine .bind' (.eq (ix_nat go1) ?_)
  dsimp only
  rw [wr_id (x := tot (FP a) l rs + v) (by omega), wr_id (x := tot (FP o) l rs - v) (by omega)]
  have hq : (((planOf n l rs pumps).Ports.set a (tot (FP a) l rs + v)).set o (tot (FP o) l rs - v)) = portsOf n l (rs.set i (r + v)) := by
   refine List.ext_getElem? fun k => ?_
   show (((portsOf n l rs).set a _).set o _)[k]? = _
   by_cases hkl : k < n.Ports.length
   ·rw [portsOf_at hkl, tP]
    by_cases hko : o = k
    ·subst hko; rw [List.getElem?_set_self (by simp; omega), fo]; congr 1
    ·rw [List.getElem?_set_ne hko]
     by_cases hka : a = k
     ·subst hka; rw [List.getElem?_set_self (by omega), fa]
     ·rw [List.getElem?_set_ne hka, portsOf_at hkl, f0 k (Ne.symm hka) (Ne.symm hko)]; simp
   ·rw [List.getElem?_eq_none (by simp; omega), List.getElem?_eq_none (by rw [portsOf_len]; omega)]
  rw [hq]
  refine .bind' (.eq (ix_nat (portsOf_at hal)) (Ok.iteD (fun h => ?_) fun _ => .bind' (.eq (ix_nat (portsOf_at hol)) (Ok.iteD (fun h => ?_) fun _ => .bind' (.eq (ix_nat (l := (planOf n l rs pumps).Ports) ga) (Ok.iteD (fun h => ?_) fun _ => .bind' (.eq (ix_nat (l := (planOf n l rs pumps).Ports) go) ?_)))))))
  ·dsimp only at h; rw [tP, fa] at h; omega
  ·dsimp only at h; rw [tP, fo] at h; omega
  ·dsimp only at h; omega
  dsimp only
  rw [show decide (tot (FP o) l rs > 0) = false from decide_eq_false (by omega)]
  unfold L.zkvy.J1
  refine Ok.iteB (fun h => by cases h) fun _ => .bind (Q := fun d : (Desk × Int) ⊕ List Int => d = .inr (ratesOf n l (rs.set i (r + v)))) ?_ ?_
  ·refine .loop (S := List Int × Int) (fun st => ∃ j : Nat, st.2 = (j : Int) ∧ j ≤ u.Hops.length ∧ st.1.length = n.Segments.length ∧ ∀ k, k < n.Segments.length → st.1[k]? = some (tot (fs k) l rs + hsum v k (u.Hops.take j))) (fun st => u.Hops.length - st.2.toNat)
    ⟨0, rfl, by omega, ratesOf_len n l rs, fun k hk => by show (ratesOf n l rs)[k]? = _; rw [ratesOf_at hk]; simp [hsum]⟩ (by dsimp only; omega) ?_
   rintro ⟨st, _⟩ ⟨j, rfl, hj, hsl, hst⟩
   dsimp only at hsl hst
   unfold L.zkvy.B3
   refine Ok.iteD (fun hlt => ?_) fun hge => .pure ?_
   ·dsimp only at hlt
    have hx : u.Hops[j]? = some (u.Hops[j]'(by omega)) := gq _
    generalize u.Hops[j]'(by omega) = x at hx
    obtain ⟨k, s, y, q1, q2, q3, q4, q5, q6⟩ := hu.hop hd.res hx
    have hkl := (gs q2).1
    have hin := seg_in hd hs q3; have hin' := seg_in hd hs' q3
    have hrng := hp.rng k y s q3 q2
    rw [tS, q5] at hin'
    have gk : (ratesOf n l rs)[k]? = some (tot (fs k) l rs) := ratesOf_at hkl
    have sk := hst k hkl
    rw [q6 v] at sk
    refine .bind' (.eq (ix_nat hx) ?_)
    have fin : ∀ z, z = tot (fs k) l rs + sgn v x → Sum.elim (fun st : List Int × Int => (∃ j : Nat, st.2 = (j : Int) ∧ j ≤ u.Hops.length ∧ st.1.length = n.Segments.length ∧ ∀ k, k < n.Segments.length → st.1[k]? = some (tot (fs k) l rs + hsum v k (u.Hops.take j))) ∧ u.Hops.length - st.2.toNat < u.Hops.length - ((j : Nat) : Int).toNat)
      (fun d : (Desk × Int) ⊕ List Int => d = .inr (ratesOf n l (rs.set i (r + v)))) (.inl (st.set k z, wr ((j : Int) + 1))) := by
     intro z hz
     refine ⟨⟨j + 1, by dsimp only; rw [wr_id (by omega)]; omega, by omega, by simp [hsl], fun k' hk' => ?_⟩, by dsimp only; rw [wr_id (by omega)]; omega⟩
     dsimp only
     rw [hsum_take hx]
     by_cases hkk : k = k'
     ·subst hkk
      rw [List.getElem?_set_self (by omega), q6 v, if_pos q1, hz]; congr 1; omega
     ·rw [List.getElem?_set_ne hkk, hst k' hk', if_neg (by omega)]; simp
    rcases q4 with ⟨b, hy⟩ | ⟨b, hy⟩
    ·rw [show sgn v x = v by unfold sgn; rw [b]; rfl] at hin' fin
     dsimp only
     refine Ok.iteB (fun h => by rw [b] at h; cases h) fun _ => ?_
     unfold L.zkvy.J4
     rw [q1]
     refine .bind' (.eq (ix_nat (l := (planOf n l rs pumps).Rates) gk) ?_)
     dsimp only
     rw [Int.one_mul, wr_id (x := tot (fs k) l rs) (by omega), show (sFlow u v).Value = v from rfl, wr_id (x := tot (fs k) l rs + v) (by omega)]
     refine Ok.iteB (fun h => ?_) fun _ => .bind' (.eq (ix_nat sk) (.pure ?_))
     ·simp at h; omega
     dsimp only
     rw [Int.one_mul, wr_id (x := tot (fs k) l rs + v) (by omega)]
     exact fin _ rfl
    ·rw [show sgn v x = -v by unfold sgn; rw [b]; rfl] at hin' fin
     dsimp only
     refine Ok.iteB (fun _ => ?_) fun h => by rw [b] at h; cases h
     unfold L.zkvy.J4
     rw [q1]
     refine .bind' (.eq (ix_nat (l := (planOf n l rs pumps).Rates) gk) ?_)
     dsimp only
     rw [show (-1 : Int) * tot (fs k) l rs = -tot (fs k) l rs by omega, wr_id (x := -tot (fs k) l rs) (by omega), show (sFlow u v).Value = v from rfl, wr_id (x := -tot (fs k) l rs + v) (by omega)]
     refine Ok.iteB (fun h => ?_) fun _ => .bind' (.eq (ix_nat sk) (.pure ?_))
     ·simp at h; omega
     dsimp only
     rw [show (-1 : Int) * (-tot (fs k) l rs + v) = tot (fs k) l rs + -v by omega, wr_id (x := tot (fs k) l rs + -v) (by omega)]
     exact fin _ rfl
   ·dsimp only at hge
    have : j = u.Hops.length := by omega
    subst this
    show Sum.inr st = _
    congr 1
    refine List.ext_getElem? fun k => ?_
    by_cases hkl : k < n.Segments.length
    ·rw [hst k hkl, ratesOf_at hkl, tS, List.take_length]; rfl
    ·rw [List.getElem?_eq_none (by omega), List.getElem?_eq_none (by rw [ratesOf_len]; omega)]
  ·rintro _ rfl
   simp only [Sum.elim_inr]
   unfold L.zkvy.J2
   dsimp only
   rw [show (sFlow u v).Value = v from rfl, wr_id (x := tot (FP a) l rs + v) (by omega), wr_id (x := tot (FP o) l rs - v) (by omega), hq]
   have e : (⟨ratesOf n l (rs.set i (r + v)), portsOf n l (rs.set i (r + v)), (planOf n l rs pumps).Pumps⟩ : Plan) = planOf n l (rs.set i (r + v)) pumps := rfl
   rw [e, check16 hn hp'.flow, fed26 hn hp'.flow hf]
   exact .bind' (.pure (Ok.iteU (fun h => absurd rfl h) fun _ => .bind' (.pure (Ok.iteN (fun h => by cases h) fun _ => .pure rfl))))
 obtain ⟨z, h, rfl⟩ := this
 exact h
def waits (t : Int) : List Step := if 0 < t then [sWait t] else []
theorem waits_len (t : Int) : (waits t).length ≤ 1 := by unfold waits; split <;> simp
theorem comp1 {t : Int} (ht : t ≤ 100) (h0 : -1000 ≤ t) {l : List Step} (hl : l.length ≤ 1000000) : L.zlwi t l = some (l ++ waits t) := by
 have : Ok (L.zlwi t l) fun r => r = l ++ waits t := by
  unfold L.zlwi
  refine .bind (Q := fun r => r = l ++ waits t) ?_ (by rintro _ rfl; exact .pure rfl)
  refine .loop (S := List Step × Int) (fun st => st = (l, t) ∨ st.1 = l ++ waits t ∧ -1000 ≤ st.2 ∧ st.2 ≤ 0) (fun st => if st.2 ≤ 0 then 0 else 1) (.inl rfl) (by split <;> omega) ?_
  rintro st (rfl | ⟨h1, h2⟩)
  ·unfold L.zlwi.B1
   refine Ok.iteD (fun hp => ?_) fun hp => .pure ?_
   ·dsimp only at hp
    refine .bind' (.app (by simp; omega) (.pure ⟨.inr ⟨?_, ?_⟩, ?_⟩))
    ·unfold waits; rw [if_pos hp]; dsimp only; rw [show min t 100 = t by omega]; rfl
    ·dsimp only; rw [wr_id (by omega)]; omega
    ·dsimp only; rw [wr_id (by omega), if_pos (by omega), if_neg (by omega)]; omega
   ·dsimp only at hp
    show l = _
    unfold waits; rw [if_neg hp]; simp
  ·unfold L.zlwi.B1
   exact Ok.iteD (fun hp => by omega) fun _ => .pure h1
 obtain ⟨r, h, rfl⟩ := this
 exact h
def falls (u : Path) (sign ramp rest : Int) (b : Int) : List Step :=
 if h : 0 < b ∧ 0 < ramp then sFlow u (sign * min b ramp) :: (waits rest ++ falls u sign ramp rest (b - ramp)) else []
termination_by b.toNat
decreasing_by omega
theorem falls_pos {u : Path} {sign ramp rest b : Int} (h : 0 < b) (hr : 0 < ramp) : falls u sign ramp rest b = sFlow u (sign * min b ramp) :: (waits rest ++ falls u sign ramp rest (b - ramp)) := by
 rw [falls, dif_pos ⟨h, hr⟩]
theorem falls_nil {u : Path} {sign ramp rest b : Int} (h : b ≤ 0) : falls u sign ramp rest b = [] := by
 rw [falls, dif_neg (by omega)]
theorem cloneHop {l : List Hop} (h : l.length ≤ 1000) : L.zjlw l = some l := by
 unfold L.zjlw; rw [app?_eq (by simp; omega)]; rfl
theorem comp2 {u : Path} (hu : u.Hops.length ≤ 5) {b sign ramp rest : Int} (hs : sign = 1 ∨ sign = -1) (hr : 1 ≤ ramp ∧ ramp ≤ 1000) (ht : 0 ≤ rest ∧ rest ≤ 100) (hb : -1000 ≤ b ∧ b ≤ 1000) {out : List Step} (ho : out.length ≤ 500000) :
  L.zihi u b sign ramp out rest = some (out ++ falls u sign ramp rest b) := by
 have : Ok (L.zihi u b sign ramp out rest) fun r => r = out ++ falls u sign ramp rest b := by
  unfold L.zihi
  rw [cloneHop (by omega)]
  refine .bind' (.pure (.bind (Q := fun r => r = out ++ falls u sign ramp rest b) ?_ (by rintro _ rfl; exact .pure rfl)))
  refine .loop (S := List Step × Int) (fun st => st.1 ++ falls u sign ramp rest st.2 = out ++ falls u sign ramp rest b ∧ -1000 ≤ st.2 ∧ st.2 ≤ 1000 ∧ st.1.length + 2 * st.2.toNat ≤ out.length + 2 * b.toNat) (fun st => st.2.toNat) ⟨rfl, hb.1, hb.2, Nat.le_refl _⟩ (by dsimp only; omega) ?_
  rintro ⟨l, c⟩ ⟨i1, i2, i3, i4⟩
  dsimp only at i1 i2 i3 i4
  unfold L.zihi.B1
  refine Ok.iteD (fun hp => ?_) fun hp => .pure ?_
  ·dsimp only at hp
   refine .bind' (.app (by simp; omega) ?_)
   rw [comp1 (by omega) (by omega) (by simp; omega)]
   dsimp only
   refine .bind' (.pure (.pure ⟨⟨?_, by dsimp only; rw [wr_id (x := c - ramp) (by omega)]; omega, by dsimp only; rw [wr_id (x := c - ramp) (by omega)]; omega, ?_⟩, by dsimp only; rw [wr_id (x := c - ramp) (by omega)]; omega⟩))
   ·dsimp only
    rw [wr_id (x := c - ramp) (by omega), ← i1, falls_pos hp (by omega)]
    have : wr (sign * min c ramp) = sign * min c ramp := wr_id (by rcases hs with rfl | rfl <;> omega)
    rw [this, List.append_assoc, List.append_assoc]; rfl
   ·have := waits_len rest
    dsimp only; rw [wr_id (x := c - ramp) (by omega)]
    simp only [List.length_append, List.length_singleton]; omega
  ·dsimp only at hp
   show l = _
   rw [← i1, falls_nil (by omega), List.append_nil]
 obtain ⟨r, h, rfl⟩ := this
 exact h
theorem within_ok {l other : List Path} (ha : Apart other) (hl : l.length ≤ 1000) : L.zdgq l other = some (l.map (mr other)) := by
 have : Ok (L.zdgq l other) fun r => r = l.map (mr other) := by
  unfold L.zdgq
  refine .bind (.forS (fun k st => st = (l.take k).map (mr other)) rfl ?_ fun st h => h) ?_
  ·rintro k x _ hx rfl
   have hkl := (gs hx).1
   have j3 : ∀ z, z = mr other x → Ok (L.zdgq.J3 ((l.take k).map (mr other)) z) fun st => st = (l.take (k + 1)).map (mr other) := by
    rintro z rfl
    unfold L.zdgq.J3
    refine .bind' (.app (by simp; omega) (.pure ?_))
    rw [List.take_add_one, hx, List.map_append]; rfl
   unfold L.zdgq.B2
   refine .bind find_path ?_
   rintro m (⟨rfl, hno⟩ | ⟨k', y, rfl, hy, ha'⟩)
   ·refine Ok.iteD (fun h => by omega) fun _ => j3 _ (mr_none hno).symm
   ·refine Ok.iteD (fun _ => .bind' (.eq (ix_nat hy) ?_)) fun h => by omega
    exact j3 _ (mr_at ha hy ha').symm
  ·rintro _ rfl
   exact .pure (by rw [List.take_length])
 obtain ⟨r, h, rfl⟩ := this
 exact h
def cmn (b : List Path) : List Path → List Path
 | [] => []
 | u :: a => if 0 < mr b u then rated u (mr b u) :: cmn b a else cmn b a
theorem cmn_tot {F : Path → Int → Int} (h0 : ∀ u, F u 0 = 0) (hA : ∀ u v r, Alike u v → F u r = F v r) {b : List Path} : ∀ {a : List Path}, (∀ u, u ∈ a → 0 ≤ mr b u) → tot F (cmn b a) ((cmn b a).map (·.Rate)) = tot F a (a.map (mr b))
 | [], _ => rfl
 | u :: a, h => by
  have ih := cmn_tot h0 hA (a := a) fun v hv => h v (by simp [hv])
  have := h u (by simp)
  simp only [cmn, List.map_cons, tot]
  split
  ·simp only [List.map_cons, tot, ih]
   congr 1
   exact hA _ _ _ ⟨rfl, rfl, rfl⟩
  ·rw [ih, show mr b u = 0 by omega, h0]; omega
theorem cmn_append (b : List Path) : ∀ (a : List Path) (u : Path), cmn b (a ++ [u]) = cmn b a ++ if 0 < mr b u then [rated u (mr b u)] else []
 | [], u => by simp only [List.nil_append, cmn]
 | v :: a, u => by
  simp only [List.cons_append, cmn, cmn_append b a u]
  split <;> simp
theorem cmn_len (b : List Path) : ∀ a : List Path, (cmn b a).length ≤ a.length
 | [] => by simp [cmn]
 | v :: a => by have := cmn_len b a; simp only [cmn]; split <;> simp <;> omega
theorem mem_cmn {b : List Path} : ∀ {a : List Path} {y : Path}, y ∈ cmn b a → ∃ u, u ∈ a ∧ 0 < mr b u ∧ y = rated u (mr b u)
 | [], y, h => by simp [cmn] at h
 | v :: a, y, h => by
  simp only [cmn] at h
  split at h
  ·rename_i hs
   rcases List.mem_cons.1 h with rfl | h
   ·exact ⟨v, by simp, hs, rfl⟩
   ·obtain ⟨u, h1, h2⟩ := mem_cmn h; exact ⟨u, by simp [h1], h2⟩
  ·obtain ⟨u, h1, h2⟩ := mem_cmn h; exact ⟨u, by simp [h1], h2⟩
theorem common_list {n m : Network} {p q : Plan} {a b : List Path} (ha : ∀ x, x ∈ a → PathOk n p x) (hb : ∀ x, x ∈ b → PathOk m q x) (hal : a.length ≤ 1000) (hbp : Apart b) : L.zprq a b = some (cmn b a) := by
 have : Ok (L.zprq a b) fun r => r = cmn b a := by
  unfold L.zprq
  refine .bind (.forS (fun k st => st = cmn b (a.take k)) rfl ?_ fun st h => h) ?_
  ·rintro k x _ hx rfl
   have hkl := (gs hx).1
   have hxs := (ha x (mg hx)).small
   have hcl := cmn_len b (a.take k)
   rw [List.length_take] at hcl
   have e : cmn b (a.take (k + 1)) = cmn b (a.take k) ++ if 0 < mr b x then [rated x (mr b x)] else [] := by rw [List.take_add_one, hx]; exact cmn_append _ _ _
   unfold L.zprq.B2
   refine .bind find_path ?_
   rintro m (⟨rfl, hno⟩ | ⟨k', y, rfl, hy, ha'⟩)
   ·refine Ok.iteD (fun h => by omega) fun _ => ?_
    unfold L.zprq.J3
    exact .pure (by rw [e, mr_none hno]; simp)
   ·have hys := (hb y (mg hy)).small
    refine Ok.iteD (fun _ => .bind' (.eq (ix_nat hy) ?_)) fun h => by omega
    dsimp only
    rw [with_ok (by omega)]
    refine .bind' (.pure (.bind' (.app (by simp; omega) ?_)))
    unfold L.zprq.J3
    refine .pure ?_
    rw [e, mr_at hbp hy ha', if_pos (by omega)]; rfl
  ·rintro _ rfl
   exact .pure (by rw [List.take_length])
 obtain ⟨r, h, rfl⟩ := this
 exact h
theorem commonP {n m : Network} (hn : NetOk n) {up : Bool} {p q : Plan} {a b : List Path} (hd : Divided n up p a) (hb : ∀ x, x ∈ b → PathOk m q x) (hbp : Apart b) :
  L.zygk n a b = some (planOf n a (a.map (mr b)) (List.replicate n.Stations.length false)) := by
 have h1 := hn.segs1; have h2 := hn.ports1; have h3 := hn.sts1; have hcl := cmn_len b a; have hct := hd.count
 have hok : ∀ x, x ∈ cmn b a → PathOk n p x := fun x hx => by
  obtain ⟨u, hu, h0, rfl⟩ := mem_cmn hx
  have hus := hd.paths u hu
  have := mr_rng (l := b) (u := u) (fun y hy => (hb y hy).small.2.1) hus.small.2.1
  exact hus.rated (by have := hus.small; omega)
 have hmr : ∀ u, u ∈ a → 0 ≤ mr b u := fun u hu => (mr_rng (l := b) (u := u) (fun y hy => (hb y hy).small.2.1) (hd.paths u hu).small.2.1).1
 have : Ok (L.zygk n a b) fun r => r = planOf n a (a.map (mr b)) (List.replicate n.Stations.length false) := by
  unfold L.zygk
  refine .bind' (.mk n.Segments.length rfl (by omega) (.bind' (.mk n.Ports.length rfl (by omega) (.bind' (.mk n.Stations.length rfl (by omega) ?_)))))
  unfold L.zygk.J1
  rw [common_list hd.paths hb (by omega) hbp]
  refine .bind' (.pure (.bind (.forJ (fun j (st : List Int × List Int × List Bool) => st.1.length = n.Segments.length ∧ st.2.1.length = n.Ports.length ∧ st.2.2 = List.replicate n.Stations.length false ∧ (∀ (k : Nat) (r : Int), st.1[k]? = some r → r = segSum k ((cmn b a).take j)) ∧ ∀ (k : Nat) (r : Int), st.2.1[k]? = some r → r = portSum k ((cmn b a).take j))
   ⟨by simp, by simp, rfl, fun k r hk => ?_, fun k r hk => ?_⟩ ?_ fun st h => h) ?_))
  ·have := mg hk; simp at this; simp [segSum]; omega
  ·have := mg hk; simp at this; simp [portSum]; omega
  ·rintro j ⟨rates, ports, pu⟩ hj ⟨i1, i2, i3, i4, i5⟩
   dsimp only at i1 i2 i3 i4 i5
   have hx : (cmn b a)[j]? = some ((cmn b a)[j]'(by omega)) := gq _
   generalize (cmn b a)[j]'(by omega) = x at hx
   have ht : ∀ x, x ∈ (cmn b a).take j → PathOk n p x := fun x hx => hok x (List.mem_of_mem_take hx)
   have htl : ((cmn b a).take j).length ≤ 64 := by rw [List.length_take]; omega
   unfold L.zygk.B3
   refine .bind' (.eq (ix_nat hx) (.bind (grow_ok hd.res (hok x (mg hx)) i1 i2 (fun k r hk => by have := i4 k r hk; have := segSum_bnd k ht; omega) fun k r hk => by have := i5 k r hk; have := portSum_bnd k ht; omega) ?_))
   rintro q ⟨g1, g2, g3, g4, g5, g6⟩
   dsimp only at g1 g2 g3 g4 g5
   refine .pure ⟨by dsimp only; omega, by dsimp only; omega, by dsimp only; rw [g3, i3], fun k r hk => ?_, fun k r hk => ?_⟩
   ·dsimp only at hk
    have hkl := (gs hk).1
    have h0 : rates[k]? = some (rates[k]'(by omega)) := gq _
    have ha := g4 k _ h0
    have hb := i4 k _ h0
    rw [hk] at ha; simp at ha
    rw [segSum_take hx]; omega
   ·dsimp only at hk
    have hkl := (gs hk).1
    have h0 : ports[k]? = some (ports[k]'(by omega)) := gq _
    have ha := g5 k _ h0
    have hb := i5 k _ h0
    rw [hk] at ha; simp at ha
    rw [portSum_take hx]; omega
  ·rintro ⟨rates, ports, pu⟩ ⟨i1, i2, i3, i4, i5⟩
   rw [List.take_length] at i4 i5
   dsimp only at i1 i2 i3 i4 i5
   unfold L.zygk.J2
   refine .pure ?_
   unfold planOf
   subst i3
   congr 1
   ·refine List.ext_getElem? fun k => ?_
    by_cases hk : k < n.Segments.length
    ·have h0 : rates[k]? = some (rates[k]'(by omega)) := gq _
     dsimp only
     rw [ratesOf_at hk, h0, i4 k _ h0, ← tot_seg, cmn_tot (FS_zero k) (FS_alike k) hmr]
    ·rw [List.getElem?_eq_none (by dsimp only; omega), List.getElem?_eq_none (by rw [ratesOf_len]; omega)]
   ·refine List.ext_getElem? fun k => ?_
    by_cases hk : k < n.Ports.length
    ·have h0 : ports[k]? = some (ports[k]'(by omega)) := gq _
     dsimp only
     rw [portsOf_at hk, h0, i5 k _ h0, ← tot_port, cmn_tot (FP_zero k) (FP_alike k) hmr]
    ·rw [List.getElem?_eq_none (by dsimp only; omega), List.getElem?_eq_none (by rw [portsOf_len]; omega)]
 obtain ⟨r, h, rfl⟩ := this
 exact h
structure Turns (vs : List Valve) (nd : List Bool) (cs os : List Nat) (most : Int) : Prop where
 tc : ∀ i, i ∈ cs → ∃ v, vs[i]? = some v ∧ nd[i]? = some false ∧ v.Open ≤ most ∧ ¬ (v.Open = 0 ∧ v.Want = false)
 to_ : ∀ i, i ∈ os → ∃ v, vs[i]? = some v ∧ nd[i]? = some true ∧ v.Travel - v.Open ≤ most ∧ ¬ (v.Open = v.Travel ∧ v.Want = true)
 shut : ∀ (i : Nat) (v : Valve), vs[i]? = some v → nd[i]? = some false → i ∉ cs → v.Open = 0 ∧ v.Want = false
 open_ : ∀ (i : Nat) (v : Valve), vs[i]? = some v → nd[i]? = some true → i ∉ os → v.Open = v.Travel ∧ v.Want = true
 rng : 0 ≤ most ∧ most ≤ 60
 len : cs.length + os.length ≤ vs.length
 none_ : cs = [] → os = [] → most = 0
theorem turns_ok {n : Network} {d : Desk} (hv : VsOk n d.Valves) (hl : d.Valves.length ≤ 1000) {later : Int} (ht : 0 ≤ later) {nd : List Bool} (hnd : nd.length = d.Valves.length) :
  Ok (L.zppq d later nd) fun r => ∃ cs os most, r = (cs.map sClose ++ os.map sOpen, most, true) ∧ Turns (d.Valves.map (vmv later)) nd cs os most := by
 let T : Nat → List Nat → List Nat → Int → Prop := fun k cs os most => (∀ i, i ∈ cs → ∃ v, (d.Valves.map (vmv later))[i]? = some v ∧ nd[i]? = some false ∧ v.Open ≤ most ∧ ¬ (v.Open = 0 ∧ v.Want = false)) ∧
  (∀ i, i ∈ os → ∃ v, (d.Valves.map (vmv later))[i]? = some v ∧ nd[i]? = some true ∧ v.Travel - v.Open ≤ most ∧ ¬ (v.Open = v.Travel ∧ v.Want = true)) ∧
  (∀ (i : Nat) (v : Valve), i < k → (d.Valves.map (vmv later))[i]? = some v → nd[i]? = some false → i ∉ cs → v.Open = 0 ∧ v.Want = false) ∧
  (∀ (i : Nat) (v : Valve), i < k → (d.Valves.map (vmv later))[i]? = some v → nd[i]? = some true → i ∉ os → v.Open = v.Travel ∧ v.Want = true) ∧
  (0 ≤ most ∧ most ≤ 60) ∧ cs.length + os.length ≤ k ∧ (cs = [] → os = [] → most = 0)
 unfold L.zppq
 refine .bind' (.forL (fun k (st : List Step × List Step × Int) => ∃ cs os most, st = (cs.map sClose, os.map sOpen, most) ∧ T k cs os most) (fun _ => False)
  ⟨[], [], 0, rfl, by simp, by simp, fun i v h => absurd h (Nat.not_lt_zero _), fun i v h => absurd h (Nat.not_lt_zero _), by omega, by simp, fun _ _ => rfl⟩ ?_ ?_ fun _ h => h.elim)
 ·rintro k x _ hx ⟨cs, os, most, rfl, t1, t2, t3, t4, t5, t6, t7⟩
  have hkl := (gs hx).1
  have hxo := hv.at hx
  have hw := vmv_ok hxo ht
  have hwo := hw.opn; have hwt := hw.travel
  have e : L.zwje x (min later 60) = (vmv later x, 0) := by rw [passP hxo (by omega), vmv_most hxo ht]
  have hg : (d.Valves.map (vmv later))[k]? = some (vmv later x) := by rw [List.getElem?_map, hx]; rfl
  have hn : nd[k]? = some (nd[k]'(by omega)) := gq _
  generalize nd[k]'(by omega) = need at hn
  have others : ∀ (i : Nat) (v : Valve), i < k + 1 → (d.Valves.map (vmv later))[i]? = some v → i < k ∨ i = k ∧ v = vmv later x := by
   intro i v hi hvi
   by_cases h : i = k
   ·subst h; rw [hg] at hvi; simp at hvi; exact .inr ⟨rfl, hvi.symm⟩
   ·exact .inl (by omega)
  unfold L.zppq.B2
  rw [e]
  refine Ok.iteU (fun h => absurd rfl h) fun _ => .bind' (.eq (ix_nat hn) ?_)
  have j4 : ∀ (kd : Int) (there : Bool), (kd = if need = true then 1 else 2) → (there = true ↔ (vmv later x).Open = if need = true then (vmv later x).Travel else 0) →
    Ok (L.zppq.J4 later nd k x (cs.map sClose, os.map sOpen, most) (kd, there)) (Sum.elim (fun st => ∃ cs os most, st = (cs.map sClose, os.map sOpen, most) ∧ T (k + 1) cs os most) fun _ => False) := by
   intro kd there hkd hth
   have j5 : ∀ z : Bool, (z = true ↔ ((vmv later x).Open = if need = true then (vmv later x).Travel else 0) ∧ (vmv later x).Want = need) →
     Ok (L.zppq.J5 later nd k x (cs.map sClose, os.map sOpen, most) (kd, there) z) (Sum.elim (fun st => ∃ cs os most, st = (cs.map sClose, os.map sOpen, most) ∧ T (k + 1) cs os most) fun _ => False) := by
    intro z hz
    unfold L.zppq.J5
    rw [e]
    refine Ok.iteB (fun hb => ?_) fun hb => .bind' (.eq (ix_nat hn) ?_)
    ·obtain ⟨z1, z2⟩ := hz.1 hb
     unfold L.zppq.J3
     refine .pure ⟨cs, os, most, rfl, t1, t2, fun i v hi hvi hni hc => ?_, fun i v hi hvi hni hc => ?_, t5, by omega, t7⟩
     ·rcases others i v hi hvi with h | ⟨rfl, rfl⟩
      ·exact t3 i v h hvi hni hc
      ·rw [hn] at hni; simp at hni; subst hni; exact ⟨by simpa using z1, z2⟩
     ·rcases others i v hi hvi with h | ⟨rfl, rfl⟩
      ·exact t4 i v h hvi hni hc
      ·rw [hn] at hni; simp at hni; subst hni; exact ⟨by simpa using z1, z2⟩
    ·have hnz : ¬ (((vmv later x).Open = if need = true then (vmv later x).Travel else 0) ∧ (vmv later x).Want = need) := fun h => by have := hz.2 h; rw [hb] at this; cases this
     dsimp only
     rw [leftP (v := ⟨(vmv later x).Travel, (vmv later x).Open, need, (vmv later x).Stuck⟩) ⟨hw.travel, hw.opn, hw.free⟩]
     dsimp only
     refine Ok.iteD (fun h => by split at h <;> omega) fun _ => ?_
     subst hkd
     cases need
     ·refine Ok.iteB (fun h => by cases h) fun _ => .bind' (.app (by simp; omega) ?_)
      unfold L.zppq.J3
      refine .pure ⟨cs ++ [k], os, max most (vmv later x).Open, by simp [sClose], fun i hi => ?_, fun i hi => ?_, fun i v hi hvi hni hc => ?_, fun i v hi hvi hni hc => ?_, by omega, by simp; omega, fun h => by simp at h⟩
      ·rcases List.mem_append.1 hi with hi | hi
       ·obtain ⟨v, a, b, c, dd⟩ := t1 i hi; exact ⟨v, a, b, by omega, dd⟩
       ·have : i = k := by simpa using hi
        subst this; exact ⟨_, hg, hn, by omega, fun h => hnz ⟨by simpa using h.1, h.2⟩⟩
      ·obtain ⟨v, a, b, c, dd⟩ := t2 i hi; exact ⟨v, a, b, by omega, dd⟩
      ·rcases others i v hi hvi with h | ⟨rfl, rfl⟩
       ·exact t3 i v h hvi hni fun h' => hc (by simp [h'])
       ·exact absurd (by simp) hc
      ·rcases others i v hi hvi with h | ⟨rfl, rfl⟩
       ·exact t4 i v h hvi hni hc
       ·rw [hn] at hni; cases hni
     ·refine Ok.iteB (fun _ => .bind' (.app (by simp; omega) ?_)) fun h => by cases h
      unfold L.zppq.J3
      refine .pure ⟨cs, os ++ [k], max most ((vmv later x).Travel - (vmv later x).Open), by simp [sOpen], fun i hi => ?_, fun i hi => ?_, fun i v hi hvi hni hc => ?_, fun i v hi hvi hni hc => ?_, by omega, by simp; omega, fun _ h => by simp at h⟩
      ·obtain ⟨v, a, b, c, dd⟩ := t1 i hi; exact ⟨v, a, b, by omega, dd⟩
      ·rcases List.mem_append.1 hi with hi | hi
       ·obtain ⟨v, a, b, c, dd⟩ := t2 i hi; exact ⟨v, a, b, by omega, dd⟩
       ·have : i = k := by simpa using hi
        subst this; exact ⟨_, hg, hn, by omega, fun h => hnz ⟨by simpa using h.1, h.2⟩⟩
      ·rcases others i v hi hvi with h | ⟨rfl, rfl⟩
       ·exact t3 i v h hvi hni hc
       ·rw [hn] at hni; cases hni
      ·rcases others i v hi hvi with h | ⟨rfl, rfl⟩
       ·exact t4 i v h hvi hni fun h' => hc (by simp [h'])
       ·exact absurd (by simp) hc
   unfold L.zppq.J4
   refine Ok.iteB (fun hb => .bind' (.eq (ix_nat hn) ?_)) fun hb => j5 _ ?_
   ·rw [e]
    refine j5 _ ?_
    dsimp only at hb ⊢
    rw [← hth]
    constructor
    ·intro h; exact ⟨hb, by simpa using h⟩
    ·intro h; simpa using h.2
   ·dsimp only at hb
    constructor
    ·intro h; cases h
    ·rintro ⟨h, _⟩
     have := hth.2 h
     rw [hb] at this; cases this
  dsimp only
  cases need
  ·refine Ok.iteB (fun h => by cases h) fun _ => j4 2 _ rfl ?_
   rw [closedP hw]; simp
  ·refine Ok.iteB (fun _ => j4 1 _ rfl ?_) fun h => by cases h
   rw [openP hw]; simp
 ·rintro _ ⟨cs, os, most, rfl, t1, t2, t3, t4, t5, t6, t7⟩
  simp only [Sum.elim_inl]
  unfold L.zppq.J1
  refine .bind' (.app (by simp; omega) (.pure ⟨cs, os, most, rfl, t1, t2, fun i v hvi hni hc => ?_, fun i v hvi hni hc => ?_, t5, by rw [List.length_map]; exact t6, t7⟩))
  ·exact t3 i v (by have := (gs hvi).1; simpa using this) hvi hni hc
  ·exact t4 i v (by have := (gs hvi).1; simpa using this) hvi hni hc
def setAll (b : Bool) (is : List Nat) (m : List Bool) : List Bool := is.foldl (fun m i => m.set i b) m
theorem setAll_len (b : Bool) : ∀ (is : List Nat) (m : List Bool), (setAll b is m).length = m.length
 | [], m => rfl
 | i :: is, m => by show (setAll b is (m.set i b)).length = _; rw [setAll_len b is]; simp
theorem setAll_append (b : Bool) (is js : List Nat) (m : List Bool) : setAll b (is ++ js) m = setAll b js (setAll b is m) := by unfold setAll; rw [List.foldl_append]
theorem setAll_at (b : Bool) : ∀ {is : List Nat} {m : List Bool} {i : Nat}, (setAll b is m)[i]? = if i ∈ is ∧ i < m.length then some b else m[i]?
 | [], m, i => by simp [setAll]
 | j :: is, m, i => by
  show (setAll b is (m.set j b))[i]? = _
  rw [setAll_at b (is := is)]
  simp only [List.length_set, List.mem_cons]
  by_cases hi : i < m.length
  ·by_cases h1 : i ∈ is
   ·rw [if_pos ⟨h1, hi⟩, if_pos ⟨.inr h1, hi⟩]
   ·rw [if_neg fun h => h1 h.1]
    by_cases h2 : i = j
    ·subst h2; rw [List.getElem?_set_self hi, if_pos ⟨.inl rfl, hi⟩]
    ·rw [List.getElem?_set_ne (Ne.symm h2), if_neg]
     rintro ⟨h | h, _⟩
     ·exact h2 h
     ·exact h1 h
  ·rw [if_neg fun h => hi h.2, if_neg fun h => hi h.2, List.getElem?_eq_none (by simp; omega), List.getElem?_eq_none (by omega)]
structure Stops (m0 tp : List Bool) (Cm : Nat → Prop) (sp : List Nat) : Prop where
 idx : ∀ i, i ∈ sp → i < m0.length ∧ m0[i]? = some true ∧ ¬ (tp[i]? = some true ∧ Cm i)
 keep : ∀ i : Nat, (setAll false sp m0)[i]? = some true → m0[i]? = some true ∧ tp[i]? = some true ∧ Cm i
 len : sp.length ≤ m0.length
structure Starts (m tp : List Bool) (ss : List Nat) : Prop where
 idx : ∀ i, i ∈ ss → i < tp.length ∧ m[i]? = some false ∧ tp[i]? = some true
 all : ∀ i : Nat, tp[i]? = some true → m[i]? = some false → i ∈ ss
 len : ss.length ≤ tp.length
def ComesAt (n : Network) (c : Plan) (i : Nat) : Prop := ∀ st, n.Stations[i]? = some st → Comes n c.Rates c.Ports st.Node
theorem stops_ok {n : Network} (hn : NetOk n) {to c : Plan} (hc : FlowOk n c) {m0 : List Bool} (hm : m0.length = n.Stations.length) (ht : to.Pumps.length = n.Stations.length) :
  Ok (forJ (L.zzjm.B11 n to c) 0 m0.length ([], m0)) fun st => ∃ sp : List Nat, st = (sp.map sStop, setAll false sp m0) ∧ Stops m0 to.Pumps (ComesAt n c) sp := by
 have h3 := hn.sts1
 refine .forJ (fun k st => ∃ sp : List Nat, st = (sp.map sStop, setAll false sp m0) ∧ (∀ i, i ∈ sp → i < k ∧ i < m0.length ∧ m0[i]? = some true ∧ ¬ (to.Pumps[i]? = some true ∧ ComesAt n c i)) ∧ (∀ i : Nat, i < k → (setAll false sp m0)[i]? = some true → m0[i]? = some true ∧ to.Pumps[i]? = some true ∧ ComesAt n c i) ∧ sp.length ≤ k)
  ⟨[], rfl, by simp, fun i h => absurd h (Nat.not_lt_zero _), by simp⟩ ?_ ?_
 ·rintro k _ hk ⟨sp, rfl, i1, i2, i3⟩
  have hs : n.Stations[k]? = some (n.Stations[k]'(by omega)) := gq _
  have hx : m0[k]? = some (m0[k]'(by omega)) := gq _
  have ht : to.Pumps[k]? = some (to.Pumps[k]'(by omega)) := gq _
  generalize m0[k]'(by omega) = x at hx
  generalize to.Pumps[k]'(by omega) = y at ht
  have hg : (setAll false sp m0)[k]? = some x := by rw [setAll_at, if_neg, hx]; rintro ⟨h, _⟩; exact absurd (i1 k h).1 (Nat.lt_irrefl k)
  have yes : x = true → ¬ (y = true ∧ ComesAt n c k) → Ok (L.zzjm.J13 k (sp.map sStop, setAll false sp m0) (k, x) true) fun st => ∃ sp : List Nat, st = (sp.map sStop, setAll false sp m0) ∧ (∀ i, i ∈ sp → i < k + 1 ∧ i < m0.length ∧ m0[i]? = some true ∧ ¬ (to.Pumps[i]? = some true ∧ ComesAt n c i)) ∧ (∀ i : Nat, i < k + 1 → (setAll false sp m0)[i]? = some true → m0[i]? = some true ∧ to.Pumps[i]? = some true ∧ ComesAt n c i) ∧ sp.length ≤ k + 1 := by
   intro hxt hno
   unfold L.zzjm.J13 L.zzjm.J12
   refine Ok.iteB (fun _ => .bind' (.app (by simp; omega) (.pure ⟨sp ++ [k], ?_, fun i hi => ?_, fun i hi hset => ?_, by simp; omega⟩))) fun h => by cases h
   ·rw [setAll_append]; simp [sStop, setAll]
   ·rcases List.mem_append.1 hi with hi | hi
    ·obtain ⟨a, b⟩ := i1 i hi; exact ⟨by omega, b⟩
    ·have : i = k := by simpa using hi
     subst this
     exact ⟨by omega, hk, by rw [hx, hxt], fun h => hno ⟨by rw [ht] at h; simpa using h.1, h.2⟩⟩
   ·rw [setAll_append] at hset
    rw [show setAll false [k] (setAll false sp m0) = (setAll false sp m0).set k false from rfl] at hset
    by_cases hik : k = i
    ·subst hik; rw [List.getElem?_set_self (by rw [setAll_len]; exact hk)] at hset; cases hset
    ·rw [List.getElem?_set_ne hik] at hset; exact i2 i (by omega) hset
  have no : (x = true → y = true ∧ ComesAt n c k) → Ok (L.zzjm.J13 k (sp.map sStop, setAll false sp m0) (k, x) false) fun st => ∃ sp : List Nat, st = (sp.map sStop, setAll false sp m0) ∧ (∀ i, i ∈ sp → i < k + 1 ∧ i < m0.length ∧ m0[i]? = some true ∧ ¬ (to.Pumps[i]? = some true ∧ ComesAt n c i)) ∧ (∀ i : Nat, i < k + 1 → (setAll false sp m0)[i]? = some true → m0[i]? = some true ∧ to.Pumps[i]? = some true ∧ ComesAt n c i) ∧ sp.length ≤ k + 1 := by
   intro hyes
   unfold L.zzjm.J13 L.zzjm.J12
   refine Ok.iteB (fun h => by cases h) fun _ => .pure ⟨sp, rfl, fun i hi => ?_, fun i hi hset => ?_, by omega⟩
   ·obtain ⟨a, b⟩ := i1 i hi; exact ⟨by omega, b⟩
   ·by_cases hik : i = k
    ·subst hik
     rw [hg] at hset; simp at hset; subst hset
     obtain ⟨a, b⟩ := hyes rfl
     exact ⟨hx, by rw [ht, a], b⟩
    ·exact i2 i (by omega) hset
  unfold L.zzjm.B11
  refine .bind' (.eq (ix_nat hg) (Ok.iteB (fun hb => ?_) fun hb => no fun h => by dsimp only at hb; rw [h] at hb; cases hb))
  dsimp only at hb
  refine .bind' (.eq (ix_nat ht) (Ok.iteN (fun hy => ?_) fun hy => ?_))
  ·dsimp only at hy
   exact yes hb fun h => by rw [hy] at h; exact absurd h.1 (by simp)
  ·dsimp only at hy
   refine .bind (Leaves_ok hn hc hs) fun r hr => ?_
   cases r
   ·refine yes hb fun h => ?_
    have := hr.2 (h.2 _ hs); cases this
   ·refine no fun _ => ⟨hy, fun st hst => ?_⟩
    rw [hs] at hst; simp at hst; subst hst
    exact hr.1 rfl
 ·rintro _ ⟨sp, rfl, i1, i2, i3⟩
  exact ⟨sp, rfl, fun i hi => (i1 i hi).2, fun i h => i2 i (by have := (gs h).1; rw [setAll_len] at this; exact this) h, i3⟩
theorem starts_ok {to : Plan} {l l0 : List Step} {m : List Bool} (hl : l.length ≤ 1000000) (ht : to.Pumps.length ≤ 1000) (hm : m.length = to.Pumps.length) :
  Ok (forS (L.zzjm.B6 (l0, m)) 0 to.Pumps l) fun st => ∃ ss : List Nat, st = l ++ ss.map sStart ∧ Starts m to.Pumps ss := by
 refine .forS (fun k st => ∃ ss : List Nat, st = l ++ ss.map sStart ∧ (∀ i, i ∈ ss → i < k ∧ i < to.Pumps.length ∧ m[i]? = some false ∧ to.Pumps[i]? = some true) ∧ (∀ i : Nat, i < k → to.Pumps[i]? = some true → m[i]? = some false → i ∈ ss) ∧ ss.length ≤ k)
  ⟨[], by simp, by simp, fun i h => absurd h (Nat.not_lt_zero _), by simp⟩ ?_ ?_
 ·rintro k x _ hx ⟨ss, rfl, i1, i2, i3⟩
  have hkl := (gs hx).1
  have hg : m[k]? = some (m[k]'(by omega)) := gq _
  generalize m[k]'(by omega) = y at hg
  have j8 : ∀ z : Bool, (z = true ↔ x = true ∧ y = false) → Ok (L.zzjm.J8 k (l ++ ss.map sStart) z) fun st => ∃ ss : List Nat, st = l ++ ss.map sStart ∧ (∀ i, i ∈ ss → i < k + 1 ∧ i < to.Pumps.length ∧ m[i]? = some false ∧ to.Pumps[i]? = some true) ∧ (∀ i : Nat, i < k + 1 → to.Pumps[i]? = some true → m[i]? = some false → i ∈ ss) ∧ ss.length ≤ k + 1 := by
   intro z hz
   unfold L.zzjm.J8 L.zzjm.J7
   refine Ok.iteB (fun hb => .bind' (.app (by simp; omega) (.pure ⟨ss ++ [k], by simp [sStart], fun i hi => ?_, fun i hi h1 h2 => ?_, by simp; omega⟩))) fun hb => .pure ⟨ss, rfl, fun i hi => ?_, fun i hi h1 h2 => ?_, by omega⟩
   ·rcases List.mem_append.1 hi with hi | hi
    ·obtain ⟨a, b⟩ := i1 i hi; exact ⟨by omega, b⟩
    ·have : i = k := by simpa using hi
     subst this
     obtain ⟨a, b⟩ := hz.1 hb
     exact ⟨by omega, hkl, by rw [hg, b], by rw [hx, a]⟩
   ·by_cases hik : i = k
    ·subst hik; simp
    ·exact List.mem_append_left _ (i2 i (by omega) h1 h2)
   ·obtain ⟨a, b⟩ := i1 i hi; exact ⟨by omega, b⟩
   ·by_cases hik : i = k
    ·subst hik
     rw [hx] at h1; rw [hg] at h2; simp at h1 h2
     have := hz.2 ⟨h1, h2⟩; rw [hb] at this; cases this
    ·exact i2 i (by omega) h1 h2
  unfold L.zzjm.B6
  refine Ok.iteB (fun hb => .bind' (.eq (ix_nat hg) (j8 _ ?_))) fun hb => j8 _ ?_
  ·dsimp only; rw [hb]; simp
  ·rw [hb]; simp
 ·rintro _ ⟨ss, rfl, i1, i2, i3⟩
  exact ⟨ss, rfl, fun i hi => (i1 i hi).2, fun i h1 h2 => i2 i (gs h1).1 h1 h2, i3⟩
def tk (s : Step) : Int := if ((s.Kind == 6) && (decide (s.Value ≥ 1) && decide (s.Value ≤ 100))) = true then s.Value else 0
def tks : List Step → Int
 | [] => 0
 | s :: l => tk s + tks l
theorem tks_append : ∀ l m : List Step, tks (l ++ m) = tks l + tks m
 | [], m => by simp [tks]
 | s :: l, m => by simp only [List.cons_append, tks, tks_append l m]; omega
theorem tk_rng (s : Step) : 0 ≤ tk s ∧ tk s ≤ 100 := by
 unfold tk
 split
 ·rename_i h; simp at h; omega
 ·omega
theorem tks_rng : ∀ l : List Step, 0 ≤ tks l ∧ tks l ≤ 100 * (l.length : Int)
 | [] => by simp [tks]
 | s :: l => by have := tk_rng s; have := tks_rng l; simp only [tks, List.length_cons]; omega
theorem ticks_ok {l : List Step} (hl : l.length ≤ 1000000) : L.zipx l = some (tks l) := by
 have : Ok (L.zipx l) fun r => r = tks l := by
  unfold L.zipx
  refine .bind (.forS (fun k st => st = tks (l.take k)) rfl ?_ fun st h => h) ?_
  ·rintro k s _ hs rfl
   have := (gs hs).1
   have h1 := tks_rng (l.take k)
   rw [List.length_take] at h1
   have e : tks (l.take (k + 1)) = tks (l.take k) + tk s := by rw [List.take_add_one, hs, tks_append]; simp [tks]
   unfold L.zipx.B2 L.zipx.J3
   refine Ok.iteB (fun hb => .pure ?_) fun hb => .pure ?_
   ·have := tk_rng s
    rw [e]
    unfold tk at *
    rw [if_pos hb] at *
    rw [wr_id (by omega)]
   ·rw [e]; unfold tk; rw [hb]; simp
  ·rintro _ rfl
   exact .pure (by rw [List.take_length])
 obtain ⟨r, h, rfl⟩ := this
 exact h
theorem falls_len {u : Path} {sign ramp rest : Int} (hr : 1 ≤ ramp) : ∀ (m : Nat) (b : Int), b.toNat ≤ m → (falls u sign ramp rest b).length ≤ 2 * m
 | 0, b, h => by rw [falls_nil (by omega)]; simp
 | m + 1, b, h => by
  by_cases hb : 0 < b
  ·rw [falls_pos hb (by omega)]
   have := falls_len (u := u) (sign := sign) (rest := rest) hr m (b - ramp) (by omega)
   have := waits_len rest
   simp only [List.length_cons, List.length_append]; omega
  ·rw [falls_nil (by omega)]; simp
def fallsAll (sign ramp rest : Int) (l other : List Path) : List Step := l.flatMap fun u => falls u sign ramp rest (u.Rate - mr other u)
theorem fallsAll_len {n : Network} {p : Plan} {sign ramp rest : Int} (hr : 1 ≤ ramp) {other : List Path} (ho : ∀ y, y ∈ other → 1 ≤ y.Rate) : ∀ {l : List Path}, (∀ x, x ∈ l → PathOk n p x) → (fallsAll sign ramp rest l other).length ≤ 2000 * l.length
 | [], _ => by simp [fallsAll]
 | u :: l, h => by
  have hu := (h u (by simp)).small
  have hm := mr_rng (l := other) (u := u) ho hu.2.1
  have a := falls_len (u := u) (sign := sign) (rest := rest) hr 1000 (u.Rate - mr other u) (by omega)
  have b := fallsAll_len (sign := sign) (rest := rest) hr ho (l := l) fun x hx => h x (by simp [hx])
  unfold fallsAll at b ⊢
  rw [List.flatMap_cons, List.length_append, List.length_cons]; omega
theorem fallsLoop {n m : Network} {p q : Plan} {sign ramp rest : Int} (hs : sign = 1 ∨ sign = -1) (hr : 1 ≤ ramp ∧ ramp ≤ 1000) (ht : 0 ≤ rest ∧ rest ≤ 100) {l other : List Path} (hl : ∀ x, x ∈ l → PathOk n p x) (ho : ∀ x, x ∈ other → PathOk m q x) (hlen : l.length ≤ 14)
  {out : List Step} (hout : out.length ≤ 100000) {f : Nat → List Step → Option (List Step)}
  (hf : ∀ k st, f k st = Option.bind (ix (l.map (mr other)) (k : Int)) fun p449 => Option.bind (ix l (k : Int)) fun p451 => Option.bind (L.zihi p451.2 (wr (p451.2.Rate - p449.2)) sign ramp st rest) fun r453 => some r453) :
  forJ f 0 (l.map (mr other)).length out = some (out ++ fallsAll sign ramp rest l other) := by
 have : Ok (forJ f 0 (l.map (mr other)).length out) fun r => r = out ++ fallsAll sign ramp rest l other := by
  rw [List.length_map]
  refine .forJ (fun k st => st = out ++ fallsAll sign ramp rest (l.take k) other) (by simp [fallsAll]) ?_ fun st h => by rw [h, List.take_length]
  rintro k _ hk rfl
  have hx : l[k]? = some (l[k]'hk) := gq _
  generalize l[k]'hk = x at hx
  have hxs := (hl x (mg hx)).small
  have hm := mr_rng (l := other) (u := x) (fun y hy => (ho y hy).small.2.1) hxs.2.1
  have hg : (l.map (mr other))[k]? = some (mr other x) := by rw [List.getElem?_map, hx]; rfl
  have hle := fallsAll_len (sign := sign) (rest := rest) hr.1 (fun y hy => (ho y hy).small.2.1) (l := l.take k) fun y hy => hl y (List.mem_of_mem_take hy)
  rw [List.length_take] at hle
  rw [hf]
  refine .bind' (.eq (ix_nat hg) (.bind' (.eq (ix_nat hx) ?_)))
  dsimp only
  rw [wr_id (by omega), comp2 (by omega) hs hr ht (by omega) (by simp; omega)]
  refine .bind' (.pure (.pure ?_))
  unfold fallsAll
  rw [List.take_add_one, hx, List.flatMap_append, List.append_assoc]; simp
 obtain ⟨r, h, rfl⟩ := this
 exact h
structure Comp (n : Network) (d : Desk) (to : Plan) (ramp rest : Int) (a b : List Path) (sp cs os : List Nat) (most : Int) (ss : List Nat) : Prop where
 da : L.zxps n d.Plan = some (a, 0)
 db : L.zxps n to = some (b, 0)
 pa : ∃ up, Divided n up d.Plan a
 pb : ∃ up, Divided n up to b
 hsp : Stops d.Plan.Pumps to.Pumps (ComesAt n (planOf n a (a.map (mr b)) (List.replicate n.Stations.length false))) sp
 tn : Turns (d.Valves.map (vmv (tks (sp.map sStop ++ fallsAll (-1) ramp rest a b)))) (needs to) cs os most
 hss : Starts (setAll false sp d.Plan.Pumps) to.Pumps ss
def out27 (ramp rest : Int) (a b : List Path) (sp cs os : List Nat) (most : Int) (ss : List Nat) : List Step :=
 (((sp.map sStop ++ fallsAll (-1) ramp rest a b) ++ (cs.map sClose ++ os.map sOpen)) ++ waits most) ++ fallsAll 1 ramp rest b a ++ ss.map sStart
theorem compile_ok {n : Network} (hn : NetOk n) {d : Desk} (hd : DeskOk n d) {to : Plan} (ht : PlanOk n to) (hf : FedP n to) {ramp rest : Int} (hr : 1 ≤ ramp ∧ ramp ≤ 1000) (hs : 0 ≤ rest ∧ rest ≤ 100) :
  Ok (L.zzjm n d to ramp rest) fun r => ∃ a b sp cs os most ss, Comp n d to ramp rest a b sp cs os most ss ∧ r = if (out27 ramp rest a b sp cs os most ss).length > 400 then ([], 4) else (out27 ramp rest a b sp cs os most ss, 0) := by
 have h1 := hn.segs1; have h2 := hn.ports1; have h3 := hn.sts1; have hvl := hd.vs.1; have hml := hd.plan.ml; have htm := ht.ml; have htr := ht.rl; have htp := ht.pl
 obtain ⟨⟨a, _⟩, ea, rfl, upa, ha⟩ := divide_ok hn hd.plan
 obtain ⟨⟨b, _⟩, eb, rfl, upb, hb⟩ := divide_ok hn ht
 dsimp only at ha hb
 have hpart : Part a (a.map (mr b)) := .common ha.paths hb.paths
 have hcm := (planOf_ok hd.plan ha hpart (pumps := List.replicate n.Stations.length false) (by simp)).flow
 have hac := ha.count; have hbc := hb.count
 unfold L.zzjm L.zjgg
 rw [checkP hn hd, flowCheckF hn ht.flow, ea, eb]
 refine .bind' (.bind' (.pure (Ok.iteU (fun h => absurd rfl h) fun _ => .bind' (.pure (Ok.iteU (fun h => absurd rfl h) fun _ => Ok.iteB (fun h => ?_) fun _ => .pure (Ok.iteU (fun h => absurd rfl h) fun _ => ?_))))))
 ·simp at h; omega
 refine .bind' (.pure (Ok.iteU (fun h => absurd rfl h) fun _ => .bind' (.pure (Ok.iteU (fun h => absurd rfl h) fun _ => ?_))))
 refine .bind' (.forL (fun _ _ => True) (fun _ => False) trivial ?_ ?_ fun _ h => h.elim)
 ·intro k x _ hx _
  have hkl := (gs hx).1
  have hst : n.Stations[k]? = some (n.Stations[k]'(by omega)) := gq _
  unfold L.zzjm.B14 L.zzjm.J15
  refine Ok.iteB (fun hb => .bind (Leaves_ok hn ht.flow hst) fun r hr => ?_) fun _ => Ok.iteB (fun h => by cases h) fun _ => .pure trivial
  have := hr.2 (hf k _ hst (by rw [hx, hb]))
  subst this
  exact Ok.iteB (fun h => by cases h) fun _ => .pure trivial
 intro _ _
 simp only [Sum.elim_inl]
 unfold L.zzjm.J1
 rw [needP hn ht.flow, commonP hn ha hb.paths hb.apt]
 have hclone : L.zlhc d.Plan.Pumps = some d.Plan.Pumps := by unfold L.zlhc; rw [app?_eq (by simp; omega)]; rfl
 rw [hclone]
 refine .bind' (.pure (Ok.iteU (fun h => absurd rfl h) fun _ => .bind' (.pure (.bind' (.pure (.bind (stops_ok hn hcm hml htm) ?_))))))
 rintro _ ⟨sp, rfl, hsp⟩
 have hspl := hsp.len
 have fa := fallsAll_len (sign := -1) (rest := rest) hr.1 (fun y hy => (hb.paths y hy).small.2.1) ha.paths
 have fb := fallsAll_len (sign := 1) (rest := rest) hr.1 (fun y hy => (ha.paths y hy).small.2.1) hb.paths
 unfold L.zzjm.J2
 dsimp only
 rw [within_ok hb.apt (by omega)]
 refine .bind' (.pure ?_)
 rw [fallsLoop (f := L.zzjm.B10 ramp rest (a, 0) (a.map (mr b))) (.inr rfl) hr hs ha.paths hb.paths hac (by simp; omega) fun k st => rfl]
 refine .bind' (.pure ?_)
 unfold L.zzjm.J3
 have hol : (sp.map sStop ++ fallsAll (-1) ramp rest a b).length ≤ 50000 := by simp; omega
 have htk := tks_rng (sp.map sStop ++ fallsAll (-1) ramp rest a b)
 rw [ticks_ok (by omega), numbersP (by simp; omega) (by simp; omega)]
 refine .bind' (.pure (.bind' (.pure (.bind (turns_ok hd.vs (by omega) htk.1 (by simp; omega)) ?_))))
 rintro _ ⟨cs, os, most, rfl, htn⟩
 have htl := htn.len; have htr := htn.rng
 rw [List.length_map] at htl
 refine Ok.iteN (fun h => by cases h) fun _ => .bind' (.app (by simp at hol ⊢; omega) ?_)
 dsimp only
 rw [comp1 (by omega) (by omega) (by simp at hol ⊢; omega), within_ok ha.apt (by omega)]
 refine .bind' (.pure (.bind' (.pure ?_)))
 have hw := waits_len most
 rw [fallsLoop (f := L.zzjm.B9 ramp rest (b, 0) (b.map (mr a))) (.inl rfl) hr hs hb.paths ha.paths hbc (by simp at hol ⊢; omega) fun k st => rfl]
 refine .bind' (.pure ?_)
 unfold L.zzjm.J4
 refine .bind (starts_ok (by simp at hol ⊢; omega) (by omega) (by rw [setAll_len]; omega)) ?_
 rintro _ ⟨ss, rfl, hss⟩
 unfold L.zzjm.J5
 have hc : Comp n d to ramp rest a b sp cs os most ss := ⟨ea, eb, ⟨upa, ha⟩, ⟨upb, hb⟩, hsp, htn, hss⟩
 refine Ok.iteD (fun h => .pure ⟨a, b, sp, cs, os, most, ss, hc, ?_⟩) fun h => .pure ⟨a, b, sp, cs, os, most, ss, hc, ?_⟩
 ·rw [if_pos]; unfold out27; omega
 ·rw [if_neg]
  ·rfl
  ·unfold out27; omega
def Runs (n : Network) (Q : Desk → Prop) : Desk → List Step → Desk → Prop
 | d, [], e => d = e
 | d, s :: l, e => ∃ f, L.zvix n d s = some (f, 0) ∧ Q f ∧ Runs n Q f l e
theorem Runs.append {n : Network} {Q : Desk → Prop} : ∀ {l m : List Step} {d e f : Desk}, Runs n Q d l e → Runs n Q e m f → Runs n Q d (l ++ m) f
 | [], m, d, e, f, h, k => by cases h; exact k
 | s :: l, m, d, e, f, ⟨g, h1, h2, h3⟩, k => ⟨g, h1, h2, Runs.append h3 k⟩
theorem Runs.one {n : Network} {Q : Desk → Prop} {d e : Desk} {s : Step} (h : L.zvix n d s = some (e, 0)) (q : Q e) : Runs n Q d [s] e := ⟨e, h, q, rfl⟩
theorem needs_at {p : Plan} {k : Nat} (h : (needs p)[k]? = some true) : (∃ r, p.Rates[k]? = some r ∧ r ≠ 0) ∨ (p.Rates.length ≤ k ∧ ∃ x, p.Ports[k - p.Rates.length]? = some x ∧ x ≠ 0) := by
 unfold needs at h
 rw [List.getElem?_append] at h
 split at h
 ·rename_i hk
  rw [List.getElem?_map] at h
  cases hr : p.Rates[k]? with
  | none => rw [hr] at h; cases h
  | some r => rw [hr] at h; exact .inl ⟨r, rfl, by simpa using h⟩
 ·rename_i hk
  rw [List.length_map] at hk h
  rw [List.getElem?_map] at h
  cases hr : p.Ports[k - p.Rates.length]? with
  | none => rw [hr] at h; cases h
  | some r => rw [hr] at h; exact .inr ⟨by omega, r, rfl, by simpa using h⟩
theorem needs_rate {p : Plan} {k : Nat} {r : Int} (h : p.Rates[k]? = some r) : (needs p)[k]? = some (r != 0) := by
 have := (gs h).1
 unfold needs
 rw [List.getElem?_append_left (by simpa using this), List.getElem?_map, h]; rfl
theorem needs_port {p : Plan} {k : Nat} {r : Int} (h : p.Ports[k]? = some r) : (needs p)[p.Rates.length + k]? = some (r != 0) := by
 unfold needs
 rw [List.getElem?_append_right (by simp), List.length_map, Nat.add_sub_cancel_left, List.getElem?_map, h]; rfl
theorem needs_part {n : Network} {up : Bool} {p : Plan} (hp : PlanOk n p) {l : List Path} (hd : Divided n up p l) {rs : List Int} (h : Part l rs) {pumps : List Bool} {k : Nat} (hk : (needs (planOf n l rs pumps))[k]? = some true) : (needs p)[k]? = some true := by
 rcases needs_at hk with ⟨r, h1, h2⟩ | ⟨h0, x, h1, h2⟩
 ·obtain ⟨hl, rfl⟩ := ratesOf_is h1
  have hr : p.Rates[k]? = some (p.Rates[k]'(by rw [hp.rl]; exact hl)) := gq _
  have := seg_in hd h hr
  rw [needs_rate hr]
  simp only [Option.some.injEq, bne_iff_ne, ne_eq]
  intro h; rw [h] at this; omega
 ·have h0' : n.Segments.length ≤ k := by rw [show (planOf n l rs pumps).Rates = ratesOf n l rs from rfl, ratesOf_len] at h0; exact h0
  rw [show (planOf n l rs pumps).Rates = ratesOf n l rs from rfl, ratesOf_len] at h1
  obtain ⟨hl, rfl⟩ := portsOf_is h1
  have hr : p.Ports[k - n.Segments.length]? = some (p.Ports[k - n.Segments.length]'(by rw [hp.pl]; exact hl)) := gq _
  have := port_in hd h hr
  have e := needs_port hr
  rw [hp.rl, show n.Segments.length + (k - n.Segments.length) = k by omega] at e
  rw [e]
  simp only [Option.some.injEq, bne_iff_ne, ne_eq]
  intro h; rw [h] at this; omega
theorem deskOf {n : Network} {up : Bool} {p : Plan} (hp : PlanOk n p) {l : List Path} (hd : Divided n up p l) {rs : List Int} (h : Part l rs) {pumps : List Bool} (hm : pumps.length = n.Stations.length) {vs : List Valve} (hv : VsOk n vs) (hr : VReady vs (needs p))
  (hf : FedP n (planOf n l rs pumps)) : DeskOk n ⟨vs, planOf n l rs pumps⟩ :=
 ⟨hv, planOf_ok hp hd h hm, fun k hk => hr k (needs_part hp hd h hk), hf⟩
theorem preadyOf {n : Network} {up : Bool} {p : Plan} (hp : PlanOk n p) {l : List Path} (hd : Divided n up p l) {vs : List Valve} (hr : VReady vs (needs p)) {u : Path} (hu : u ∈ l) : PReady n vs u := by
 have hu := hd.paths u hu
 obtain ⟨a, o, y0, y1, ea, eo, hne, hal, hol, ya, ya0, yo, yo0⟩ := hu.ends
 refine ⟨fun h hh => ?_, ?_, ?_⟩
 ·obtain ⟨j, hj⟩ := List.getElem?_of_mem hh
  obtain ⟨k, s, r, q1, q2, q3, q4, _⟩ := hu.hop hd.res hj
  obtain ⟨v, b1, b2⟩ := hr k (by rw [needs_rate q3]; simp; omega)
  exact ⟨k, v, q1, b1, b2⟩
 ·obtain ⟨v, b1, b2⟩ := hr _ (by rw [needs_port ya]; simp; omega)
  rw [hp.rl] at b1
  exact ⟨a, v, ea, b1, b2⟩
 ·obtain ⟨v, b1, b2⟩ := hr _ (by rw [needs_port yo]; simp; omega)
  rw [hp.rl] at b1
  exact ⟨o, v, eo, b1, b2⟩
theorem pass_add {n : Network} {vs : List Valve} (hv : VsOk n vs) {s t : Int} (hs : 0 ≤ s) (ht : 0 ≤ t) : (vs.map (vmv s)).map (vmv t) = vs.map (vmv (s + t)) := by
 rw [List.map_map]
 exact List.map_congr_left fun v h => vmv_add (hv.2 v h) hs ht
theorem pass_zero {n : Network} {vs : List Valve} (hv : VsOk n vs) : vs.map (vmv 0) = vs := by
 conv => rhs; rw [← List.map_id vs]
 exact List.map_congr_left fun v h => vmv_zero (hv.2 v h)
theorem tk_flow (u : Path) (v : Int) : tk (sFlow u v) = 0 := rfl
theorem tk_wait {t : Int} (h : 1 ≤ t ∧ t ≤ 100) : tk (sWait t) = t := by unfold tk sWait; simp; omega
theorem tks_waits {t : Int} (h : 0 ≤ t ∧ t ≤ 100) : tks (waits t) = t := by
 unfold waits
 split
 ·simp only [tks, tk_wait (t := t) (by omega)]; omega
 ·simp only [tks]; omega
theorem waits_run {n : Network} (hn : NetOk n) {Q : Desk → Prop} {d : Desk} (hd : DeskOk n d) {t : Int} (ht : 0 ≤ t ∧ t ≤ 100) (hQ : ∀ vs, Q ⟨vs, d.Plan⟩) : Runs n Q d (waits t) ⟨d.Valves.map (vmv t), d.Plan⟩ := by
 unfold waits
 split
 ·exact .one (apply_wait hn hd (by omega)) (hQ _)
 ·have : t = 0 := by omega
  subst this
  rw [pass_zero hd.vs]; rfl
theorem set_same {α : Type} {l : List α} {i : Nat} {x : α} (h : l[i]? = some x) : l.set i x = l := by
 refine List.ext_getElem? fun j => ?_
 rw [get_set]
 split
 ·rename_i hj; rw [← hj.1, h]
 ·rfl
theorem les_set {cm rs : List Int} (h : Les cm rs) {i : Nat} {x c : Int} (hc : cm[i]? = some c) (hx : c ≤ x) : Les cm (rs.set i x) := by
 intro j r s h1 h2
 rw [get_set] at h2
 split at h2
 ·rename_i hj
  rw [← hj.1, hc] at h1
  simp at h1 h2; omega
 ·exact h j r s h1 h2
section
variable {n : Network} (hn : NetOk n) {Q : Desk → Prop} {up : Bool} {p : Plan} (hp : PlanOk n p) {l : List Path} (hd : Divided n up p l) {pumps : List Bool} (hm : pumps.length = n.Stations.length) {cm : List Int}
 (hfed : ∀ rs, Part l rs → Les cm rs → FedP n (planOf n l rs pumps)) (hQ : ∀ vs rs, Part l rs → Les cm rs → Q ⟨vs, planOf n l rs pumps⟩) {sign ramp rest : Int} (hsg : sign = 1 ∨ sign = -1) (hr : 1 ≤ ramp ∧ ramp ≤ 1000) (ht : 0 ≤ rest ∧ rest ≤ 100)
include hn hp hd hm hfed hQ hsg hr ht
theorem falls_run {i : Nat} {u : Path} (hi : l[i]? = some u) {c : Int} (hc : cm[i]? = some c) : ∀ (m : Nat) (b : Int), b.toNat ≤ m → 0 ≤ b → ∀ (vs : List Valve) (rs : List Int) (r : Int), VsOk n vs → VReady vs (needs p) → Part l rs → Les cm rs → rs[i]? = some r →
  (∀ t, 0 ≤ t → t ≤ b → 0 ≤ r + sign * t ∧ r + sign * t ≤ u.Rate ∧ c ≤ r + sign * t) →
  Runs n Q ⟨vs, planOf n l rs pumps⟩ (falls u sign ramp rest b) ⟨vs.map (vmv (tks (falls u sign ramp rest b))), planOf n l (rs.set i (r + sign * b)) pumps⟩
 | 0, b, hb, h0, vs, rs, r, hv, hvr, h1, h2, h3, h4 => by
  have : b = 0 := by omega
  subst this
  rw [falls_nil (by omega), show r + sign * 0 = r by rw [Int.mul_zero, Int.add_zero], set_same h3, show tks [] = 0 from rfl, pass_zero hv]; rfl
 | m + 1, b, hb, h0, vs, rs, r, hv, hvr, h1, h2, h3, h4 => by
  by_cases hp0 : 0 < b
  ·have hus := (hd.paths u (mg hi)).small
   have hmin := h4 (min b ramp) (by omega) (by omega)
   have hs' := h1.set hi (x := r + sign * min b ramp) ⟨hmin.1, hmin.2.1⟩
   have hl' := les_set h2 hc hmin.2.2
   have hdk := deskOf hp hd h1 hm hv hvr (hfed rs h1 h2)
   have hdk' := deskOf hp hd hs' hm hv hvr (hfed _ hs' hl')
   have st := apply_flow hn hp hd h1 (v := sign * min b ramp) hi h3 (by rcases hsg with rfl | rfl <;> omega) ⟨hmin.1, hmin.2.1⟩ hdk (preadyOf hp hd hvr (mg hi)) (hfed _ hs' hl')
   have w := waits_run hn (Q := Q) hdk' ht fun vs => hQ vs _ hs' hl'
   rw [falls_pos hp0 (by omega)]
   refine ⟨_, st, hQ _ _ hs' hl', w.append ?_⟩
   dsimp only
   have hti : (rs.set i (r + sign * min b ramp))[i]? = some (r + sign * min b ramp) := List.getElem?_set_self (gs h3).1
   by_cases hle : ramp ≤ b
   ·have e : min b ramp = ramp := by omega
    rw [e] at hs' hl' hti ⊢
    have ih := falls_run hi hc m (b - ramp) (by omega) (by omega) (vs.map (vmv rest)) _ _ (hv.pass ht.1) (vready_pass hv hvr ht.1) hs' hl' hti (fun t ht0 ht1 => by
     have := h4 (ramp + t) (by omega) (by omega)
     rw [Int.mul_add] at this; omega)
    rw [List.set_set, pass_add hv ht.1 (tks_rng _).1] at ih
    have e2 : r + sign * ramp + sign * (b - ramp) = r + sign * b := by rw [Int.mul_sub]; omega
    rw [e2] at ih
    have e3 : tks (sFlow u (sign * ramp) :: (waits rest ++ falls u sign ramp rest (b - ramp))) = rest + tks (falls u sign ramp rest (b - ramp)) := by
     show tk _ + tks (_ ++ _) = _
     rw [tk_flow, tks_append, tks_waits ht]; omega
    rw [e3]; exact ih
   ·have e : min b ramp = b := by omega
    rw [e, falls_nil (b := b - ramp) (by omega), List.append_nil]
    have e3 : tks (sFlow u (sign * b) :: waits rest) = rest := by
     show tk _ + tks _ = _
     rw [tk_flow, tks_waits ht]; omega
    rw [e3]; rfl
  ·have : b = 0 := by omega
   subst this
   rw [falls_nil (by omega), show r + sign * 0 = r by rw [Int.mul_zero, Int.add_zero], set_same h3, show tks [] = 0 from rfl, pass_zero hv]; rfl
theorem fallsAll_run {other : List Path} {ff tf : Path → Int} (hcm : cm = l.map (mr other)) (hft : ∀ u, u ∈ l → tf u = ff u + sign * (u.Rate - mr other u) ∧ 0 ≤ mr other u ∧ mr other u ≤ u.Rate ∧ ∀ t, 0 ≤ t → t ≤ u.Rate - mr other u → ff u + sign * t ≤ u.Rate ∧ mr other u ≤ ff u + sign * t) :
  ∀ (l2 l1 : List Path), l = l1 ++ l2 → ∀ vs : List Valve, VsOk n vs → VReady vs (needs p) →
   Runs n Q ⟨vs, planOf n l (l1.map tf ++ l2.map ff) pumps⟩ (fallsAll sign ramp rest l2 other) ⟨vs.map (vmv (tks (fallsAll sign ramp rest l2 other))), planOf n l (l.map tf) pumps⟩
 | [], l1, h, vs, hv, hvr => by
  have : l = l1 := by simpa using h
  subst this
  rw [show fallsAll sign ramp rest [] other = [] from rfl, show tks [] = 0 from rfl, pass_zero hv, List.map_nil, List.append_nil]; rfl
 | u :: l2, l1, h, vs, hv, hvr => by
  have hmem : ∀ w, w ∈ l1 ++ u :: l2 → 0 ≤ ff w ∧ ff w ≤ w.Rate ∧ mr other w ≤ ff w ∧ 0 ≤ tf w ∧ tf w ≤ w.Rate ∧ mr other w ≤ tf w := fun w hw => by
   obtain ⟨a, b, c, d⟩ := hft w (h ▸ hw)
   have d0 := d 0 (by omega) (by omega)
   have d1 := d (w.Rate - mr other w) (by omega) (by omega)
   rw [Int.mul_zero] at d0
   omega
  have hpart : Part l (l1.map tf ++ (u :: l2).map ff) := by
   rw [h]
   refine ⟨by simp, fun i w x hw hx => ?_⟩
   have hwm := mg hw
   have := hmem w hwm
   rw [List.getElem?_append] at hw hx
   rw [List.length_map] at hx
   split at hw <;> rename_i hlt
   ·rw [if_pos hlt, List.getElem?_map, hw] at hx; simp at hx; omega
   ·rw [if_neg hlt, List.getElem?_map, hw] at hx; simp at hx; omega
  have hles : Les cm (l1.map tf ++ (u :: l2).map ff) := by
   rw [hcm, h]
   intro i x y hx hy
   rw [List.getElem?_map] at hx
   cases hw : (l1 ++ u :: l2)[i]? with
   | none => rw [hw] at hx; cases hx
   | some w =>
    rw [hw] at hx
    have := hmem w (mg hw)
    rw [List.getElem?_append] at hw hy
    rw [List.length_map] at hy
    simp at hx
    split at hw <;> rename_i hlt
    ·rw [if_pos hlt, List.getElem?_map, hw] at hy; simp at hy; omega
    ·rw [if_neg hlt, List.getElem?_map, hw] at hy; simp at hy; omega
  have hi : l[l1.length]? = some u := by rw [h, List.getElem?_append_right (by omega)]; simp
  have hci : cm[l1.length]? = some (mr other u) := by rw [hcm, List.getElem?_map, hi]; rfl
  have hri : (l1.map tf ++ (u :: l2).map ff)[l1.length]? = some (ff u) := by rw [List.getElem?_append_right (by simp)]; simp
  obtain ⟨a, b, c, d⟩ := hft u (mg hi)
  have run := falls_run hn hp hd hm hfed hQ hsg hr ht hi hci (u.Rate - mr other u).toNat (u.Rate - mr other u) (Nat.le_refl _) (by omega) vs _ _ hv hvr hpart hles hri fun t h0 h1 => by
   have := d t h0 h1; omega
  have e : (l1.map tf ++ (u :: l2).map ff).set l1.length (ff u + sign * (u.Rate - mr other u)) = (l1 ++ [u]).map tf ++ l2.map ff := by
   rw [← a, List.set_append_right _ _ (by simp)]; simp
  rw [e] at run
  have ih := fallsAll_run hcm hft l2 (l1 ++ [u]) (by rw [h]; simp) _ (hv.pass (tks_rng (falls u sign ramp rest (u.Rate - mr other u))).1) (vready_pass hv hvr (tks_rng (falls u sign ramp rest (u.Rate - mr other u))).1)
  rw [pass_add hv (tks_rng _).1 (tks_rng _).1] at ih
  have e2 : fallsAll sign ramp rest (u :: l2) other = falls u sign ramp rest (u.Rate - mr other u) ++ fallsAll sign ramp rest l2 other := by unfold fallsAll; rw [List.flatMap_cons]
  rw [e2, tks_append]
  exact run.append ih
end
theorem FedP.of {n : Network} {p : Plan} (h : ∀ i : Nat, p.Pumps[i]? = some true → ComesAt n p i) : FedP n p := fun i st hs hp => h i hp st hs
theorem FedP.comes {n : Network} {p : Plan} (h : FedP n p) {i : Nat} (hi : p.Pumps[i]? = some true) : ComesAt n p i := fun st hs => h i st hs hi
theorem pumps_run {n : Network} (hn : NetOk n) {Q : Desk → Prop} (b : Bool) {vs : List Valve} {rates ports : List Int} (hQ : ∀ m, Q ⟨vs, ⟨rates, ports, m⟩⟩) : ∀ (is : List Nat) (m : List Bool), DeskOk n ⟨vs, ⟨rates, ports, m⟩⟩ → (∀ i, i ∈ is → i < n.Stations.length ∧ (b = true → ComesAt n ⟨rates, ports, m⟩ i)) →
  Runs n Q ⟨vs, ⟨rates, ports, m⟩⟩ (is.map fun i => if b = true then sStart i else sStop i) ⟨vs, ⟨rates, ports, setAll b is m⟩⟩
 | [], m, _, _ => rfl
 | i :: is, m, hd, hi => by
  have hf : FedP n ⟨rates, ports, m.set i b⟩ := .of fun j hj => by
   dsimp only at hj
   rw [get_set] at hj
   split at hj
   ·rename_i hij
    simp at hj
    rw [← hij.1]
    exact (hi i (by simp)).2 hj
   ·exact hd.fed.comes hj
  have hp : PlanOk n ⟨rates, ports, m.set i b⟩ := ⟨hd.plan.rl, hd.plan.pl, by dsimp only; rw [List.length_set]; exact hd.plan.ml, hd.plan.rng, hd.plan.prt, hd.plan.bal, hd.plan.dir⟩
  exact ⟨_, apply_pump hn hd (hi i (by simp)).1 b hf, hQ _, pumps_run hn b hQ is (m.set i b) ⟨hd.vs, hp, hd.ready, hf⟩ fun j hj => hi j (by simp [hj])⟩
def cmdStep (c : Nat × Bool) : Step := if c.2 = true then sOpen c.1 else sClose c.1
def setW1 (c : Nat × Bool) (V : List Valve) : List Valve := match V[c.1]? with | some v => V.set c.1 (want c.2 v) | none => V
def setW : List (Nat × Bool) → List Valve → List Valve
 | [], V => V
 | c :: l, V => setW l (setW1 c V)
theorem setW1_at {c : Nat × Bool} {V : List Valve} {k : Nat} : (setW1 c V)[k]? = if c.1 = k then (V[k]?).map (want c.2) else V[k]? := by
 unfold setW1
 by_cases h : c.1 = k
 ·subst h
  rw [if_pos rfl]
  cases hv : V[c.1]? with
  | none => simpa using hv
  | some v => simp only [Option.map_some]; exact List.getElem?_set_self (gs hv).1
 ·rw [if_neg h]
  cases hv : V[c.1]? with
  | none => rfl
  | some v => simp only; exact List.getElem?_set_ne h
theorem setW_at : ∀ {l : List (Nat × Bool)} {V : List Valve} {nd : List Bool} {k : Nat} {b : Bool}, (∀ c, c ∈ l → nd[c.1]? = some c.2) → nd[k]? = some b → (setW l V)[k]? = if k ∈ l.map Prod.fst then (V[k]?).map (want b) else V[k]?
 | [], V, nd, k, b, _, _ => by simp [setW]
 | c :: l, V, nd, k, b, h, hk => by
  simp only [setW]
  rw [setW_at (fun c hc => h c (by simp [hc])) hk, setW1_at]
  have hc := h c (by simp)
  simp only [List.map_cons, List.mem_cons]
  by_cases h1 : c.1 = k
  ·have : c.2 = b := by rw [h1, hk] at hc; simpa using hc.symm
   rw [if_pos h1, if_pos (show k = c.1 ∨ k ∈ l.map Prod.fst from .inl h1.symm), this]
   split
   ·cases V[k]? <;> rfl
   ·rfl
  ·rw [if_neg h1]
   by_cases h2 : k ∈ l.map Prod.fst
   ·rw [if_pos h2, if_pos (.inr h2)]
   ·rw [if_neg h2, if_neg]
    rintro (h | h)
    ·exact h1 h.symm
    ·exact h2 h
theorem setW_len : ∀ (l : List (Nat × Bool)) (V : List Valve), (setW l V).length = V.length
 | [], V => rfl
 | c :: l, V => by
  simp only [setW]
  rw [setW_len l]
  unfold setW1
  split <;> simp
theorem cmds_run {n : Network} (hn : NetOk n) {Q : Desk → Prop} {P : Plan} {nd : List Bool} (hsub : ∀ k : Nat, (needs P)[k]? = some true → nd[k]? = some true) (hnl : nd.length = n.Segments.length + n.Ports.length) (hQ : ∀ vs, Q ⟨vs, P⟩) :
  ∀ (l : List (Nat × Bool)) (V : List Valve), (∀ c, c ∈ l → nd[c.1]? = some c.2) → DeskOk n ⟨V, P⟩ → Runs n Q ⟨V, P⟩ (l.map cmdStep) ⟨setW l V, P⟩ ∧ DeskOk n ⟨setW l V, P⟩
 | [], V, _, hd => ⟨rfl, hd⟩
 | c :: l, V, hc, hd => by
  have h0 := hc c (by simp)
  have hl := (gs h0).1
  have hvl := hd.vs.1
  have hx : V[c.1]? = some (V[c.1]'(by dsimp only at hvl; omega)) := gq _
  generalize V[c.1]'(by dsimp only at hvl; omega) = v at hx
  have e : setW1 c V = V.set c.1 (want c.2 v) := by unfold setW1; rw [hx]
  have hpl := needs_len hd.plan.rl hd.plan.pl
  have st := apply_turn hn hd hx c.2 fun hb => by
   dsimp only at hpl ⊢
   have hq : (needs P)[c.1]? = some ((needs P)[c.1]'(by omega)) := gq _
   cases hz : (needs P)[c.1]'(by omega) with
   | false => rw [hq, hz]
   | true =>
    have := hsub c.1 (by rw [hq, hz])
    rw [h0, hb] at this; cases this
  have hd' : DeskOk n ⟨setW1 c V, P⟩ := by
   rw [e]
   refine ⟨hd.vs.set (want_ok (hd.vs.at hx) _), hd.plan, fun k hk => ?_, hd.fed⟩
   obtain ⟨w, h1, h2, h3⟩ := hd.ready k hk
   dsimp only at h1 ⊢
   by_cases hck : c.1 = k
   ·subst hck
    have hb : c.2 = true := by have := hsub _ hk; rw [h0] at this; simpa using this
    rw [hx] at h1; simp at h1; subst h1
    exact ⟨want c.2 v, List.getElem?_set_self (by dsimp only at hvl; omega), h2, hb⟩
   ·exact ⟨w, by rw [List.getElem?_set_ne hck]; exact h1, h2, h3⟩
  obtain ⟨r1, r2⟩ := cmds_run hn hsub hnl hQ l (setW1 c V) (fun x hx => hc x (by simp [hx])) hd'
  exact ⟨⟨_, st, hQ _, by dsimp only; rw [← e]; exact r1⟩, r2⟩
def finV (vs : List Valve) (nd : List Bool) : List Valve := List.zipWith (fun v b => (⟨v.Travel, if b = true then v.Travel else 0, b, v.Stuck⟩ : Valve)) vs nd
theorem finV_at {vs : List Valve} {nd : List Bool} {k : Nat} {v : Valve} {b : Bool} (h1 : vs[k]? = some v) (h2 : nd[k]? = some b) : (finV vs nd)[k]? = some ⟨v.Travel, if b = true then v.Travel else 0, b, v.Stuck⟩ := by
 unfold finV; rw [List.getElem?_zipWith, h1, h2]
theorem finV_len {vs : List Valve} {nd : List Bool} (h : nd.length = vs.length) : (finV vs nd).length = vs.length := by unfold finV; simp [h]
theorem finV_ok {n : Network} {vs : List Valve} (hv : VsOk n vs) {nd : List Bool} (h : nd.length = vs.length) : VsOk n (finV vs nd) := by
 refine ⟨by rw [finV_len h]; exact hv.1, fun v hvm => ?_⟩
 obtain ⟨k, hk⟩ := List.getElem?_of_mem hvm
 have hkl := (gs hk).1
 rw [finV_len h] at hkl
 have h1 : vs[k]? = some vs[k] := gq hkl
 have h2 : nd[k]? = some (nd[k]'(by omega)) := gq _
 rw [finV_at h1 h2] at hk
 simp at hk; subst hk
 have ho := hv.at h1
 have := ho.travel
 exact ⟨ho.travel, by dsimp only; split <;> omega, ho.free⟩
theorem finV_ready {vs : List Valve} {nd : List Bool} (h : nd.length = vs.length) : VReady (finV vs nd) nd := by
 intro k hk
 have hkl := (gs hk).1
 exact ⟨_, finV_at (gq (show k < vs.length by omega)) hk, rfl, rfl⟩
theorem finV_pass {n : Network} {vs : List Valve} (hv : VsOk n vs) {nd : List Bool} (h : nd.length = vs.length) {t : Int} (ht : 0 ≤ t) : (finV vs nd).map (vmv t) = finV vs nd := by
 refine List.ext_getElem? fun k => ?_
 rw [List.getElem?_map]
 by_cases hkl : k < vs.length
 ·have h1 : vs[k]? = some vs[k] := gq hkl
  have h2 : nd[k]? = some (nd[k]'(by omega)) := gq _
  have := (hv.at h1).travel
  rw [finV_at h1 h2]
  unfold vmv
  simp only [Option.map_some, Option.some.injEq, Valve.mk.injEq, true_and, and_true]
  split <;> omega
 ·rw [List.getElem?_eq_none (by rw [finV_len h]; omega)]; rfl
theorem finV_of_pass {vs : List Valve} {nd : List Bool} {t : Int} : finV (vs.map (vmv t)) nd = finV vs nd := by
 unfold finV; rw [List.zipWith_map_left]; rfl
theorem turn_fin {n : Network} {V : List Valve} (hv : VsOk n V) {nd : List Bool} (hl : nd.length = V.length) {cs os : List Nat} {most : Int} (ht : Turns V nd cs os most) :
  (setW (cs.map (fun i => (i, false)) ++ os.map fun i => (i, true)) V).map (vmv most) = finV V nd := by
 have hr := ht.rng
 have hc : ∀ c, c ∈ cs.map (fun i => (i, false)) ++ os.map (fun i => (i, true)) → nd[c.1]? = some c.2 := by
  intro c hc
  rcases List.mem_append.1 hc with hc | hc
  ·obtain ⟨i, hi, rfl⟩ := List.mem_map.1 hc
   obtain ⟨v, _, h, _⟩ := ht.tc i hi; exact h
  ·obtain ⟨i, hi, rfl⟩ := List.mem_map.1 hc
   obtain ⟨v, _, h, _⟩ := ht.to_ i hi; exact h
 refine List.ext_getElem? fun k => ?_
 rw [List.getElem?_map]
 by_cases hkl : k < V.length
 ·have h1 : V[k]? = some V[k] := gq hkl
  have h2 : nd[k]? = some (nd[k]'(by omega)) := gq _
  generalize V[k] = v at h1
  generalize nd[k]'(by omega) = b at h2
  have hvo := hv.at h1
  have ho := hvo.opn
  rw [setW_at hc h2, finV_at h1 h2, h1]
  have key : ∀ w : Valve, w.Travel = v.Travel → w.Open = v.Open → w.Want = b → w.Stuck = v.Stuck → (b = true → v.Travel - v.Open ≤ most) → (b = false → v.Open ≤ most) → vmv most w = ⟨v.Travel, if b = true then v.Travel else 0, b, v.Stuck⟩ := by
   intro w e1 e2 e3 e4 e5 e6
   unfold vmv
   rw [e1, e2, e3, e4]
   cases b
   ·have := e6 rfl
    simp only [Bool.false_eq_true, if_false, Valve.mk.injEq, true_and, and_true]; omega
   ·have := e5 rfl
    simp only [if_true, Valve.mk.injEq, true_and, and_true]; omega
  have mem : k ∈ (cs.map (fun i => (i, false)) ++ os.map fun i => (i, true)).map Prod.fst ↔ k ∈ cs ∨ k ∈ os := by
   simp only [List.map_append, List.map_map, List.mem_append, List.mem_map, Function.comp]
   constructor
   ·rintro (⟨a, h, rfl⟩ | ⟨a, h, rfl⟩)
    ·exact .inl h
    ·exact .inr h
   ·rintro (h | h)
    ·exact .inl ⟨k, h, rfl⟩
    ·exact .inr ⟨k, h, rfl⟩
  by_cases hm : k ∈ cs ∨ k ∈ os
  ·rw [if_pos (mem.2 hm)]
   simp only [Option.map_some, Option.some.injEq]
   refine key _ rfl rfl rfl rfl (fun hb => ?_) fun hb => ?_
   ·rcases hm with hm | hm
    ·obtain ⟨w, _, h, _⟩ := ht.tc k hm; rw [h2, hb] at h; cases h
    ·obtain ⟨w, hw, _, h, _⟩ := ht.to_ k hm; rw [h1] at hw; simp at hw; subst hw; exact h
   ·rcases hm with hm | hm
    ·obtain ⟨w, hw, _, h, _⟩ := ht.tc k hm; rw [h1] at hw; simp at hw; subst hw; exact h
    ·obtain ⟨w, _, h, _⟩ := ht.to_ k hm; rw [h2, hb] at h; cases h
  ·rw [if_neg fun h => hm (mem.1 h)]
   simp only [Option.map_some, Option.some.injEq]
   cases b
   ·obtain ⟨a1, a2⟩ := ht.shut k v h1 h2 fun h => hm (.inl h)
    exact key _ rfl rfl a2 rfl (fun h => by cases h) fun _ => by omega
   ·obtain ⟨a1, a2⟩ := ht.open_ k v h1 h2 fun h => hm (.inr h)
    exact key _ rfl rfl a2 rfl (fun _ => by omega) fun h => by cases h
 ·rw [List.getElem?_eq_none (by rw [setW_len]; omega), List.getElem?_eq_none (by rw [finV_len hl]; omega)]; rfl
def Qst (n : Network) (a b : List Path) (f : Desk) : Prop :=
 (∃ rs, Part a rs ∧ Les (a.map (mr b)) rs ∧ f.Plan.Rates = ratesOf n a rs ∧ f.Plan.Ports = portsOf n a rs) ∨ ∃ rs, Part b rs ∧ Les (b.map (mr a)) rs ∧ f.Plan.Rates = ratesOf n b rs ∧ f.Plan.Ports = portsOf n b rs
theorem Les.refl (l : List Int) : Les l l := fun i r s h1 h2 => by rw [h1] at h2; simp at h2; omega
theorem tks_stops : ∀ l : List Nat, tks (l.map sStop) = 0
 | [] => rfl
 | i :: l => by
  show tk (sStop i) + tks (l.map sStop) = 0
  rw [tks_stops l]; rfl
theorem trace {n : Network} (hn : NetOk n) {d : Desk} (hd : DeskOk n d) {to : Plan} (ht : PlanOk n to) (hf : FedP n to) {ramp rest : Int} (hr : 1 ≤ ramp ∧ ramp ≤ 1000) (hs : 0 ≤ rest ∧ rest ≤ 100) {a b : List Path} {sp cs os : List Nat} {most : Int} {ss : List Nat}
  (hc : Comp n d to ramp rest a b sp cs os most ss) : Runs n (Qst n a b) d (out27 ramp rest a b sp cs os most ss) ⟨finV d.Valves (needs to), to⟩ ∧ DeskOk n ⟨finV d.Valves (needs to), to⟩ := by
 obtain ⟨upa, ha⟩ := hc.pa
 obtain ⟨upb, hb⟩ := hc.pb
 have hvl := hd.vs.1
 have hnl : (needs to).length = d.Valves.length := by rw [needs_len ht.rl ht.pl]; exact hvl.symm
 have hml := hd.plan.ml
 have fullA : Part a (a.map (·.Rate)) := .full ha.paths
 have fullB : Part b (b.map (·.Rate)) := .full hb.paths
 have cA : Part a (a.map (mr b)) := .common ha.paths hb.paths
 have cB : Part b (b.map (mr a)) := .common hb.paths ha.paths
 have hcom := fun m => common_plan (n := n) ha.apt hb.apt m
 have hQa : ∀ (m : List Bool) (vs : List Valve) (rs : List Int), Part a rs → Les (a.map (mr b)) rs → Qst n a b ⟨vs, planOf n a rs m⟩ := fun m vs rs h1 h2 => .inl ⟨rs, h1, h2, rfl, rfl⟩
 have hQb : ∀ (m : List Bool) (vs : List Valve) (rs : List Int), Part b rs → Les (b.map (mr a)) rs → Qst n a b ⟨vs, planOf n b rs m⟩ := fun m vs rs h1 h2 => .inr ⟨rs, h1, h2, rfl, rfl⟩
 have hru : (setAll false sp d.Plan.Pumps).length = n.Stations.length := by rw [setAll_len]; exact hml
 have fedA : ∀ rs, Part a rs → Les (a.map (mr b)) rs → FedP n (planOf n a rs (setAll false sp d.Plan.Pumps)) := fun rs h1 h2 => .of fun i hi st hst =>
  comes_mono hd.plan ha cA h1 h2 ((hc.hsp.keep i hi).2.2 st hst)
 have fedB : ∀ rs, Part b rs → Les (b.map (mr a)) rs → FedP n (planOf n b rs (setAll false sp d.Plan.Pumps)) := fun rs h1 h2 => .of fun i hi st hst => by
  have h := (hc.hsp.keep i hi).2.2 st hst
  rw [hcom] at h
  exact comes_mono ht hb cB h1 h2 h
 have e0 : d = ⟨d.Valves, ⟨ratesOf n a (a.map (·.Rate)), portsOf n a (a.map (·.Rate)), d.Plan.Pumps⟩⟩ := by
  have := planOf_full hd.plan ha
  unfold planOf at this
  rw [this]
 have hd0 : DeskOk n ⟨d.Valves, ⟨ratesOf n a (a.map (·.Rate)), portsOf n a (a.map (·.Rate)), d.Plan.Pumps⟩⟩ := e0 ▸ hd
 have r1 : Runs n (Qst n a b) d (sp.map sStop) ⟨d.Valves, planOf n a (a.map (·.Rate)) (setAll false sp d.Plan.Pumps)⟩ := by
  have := pumps_run hn (Q := Qst n a b) false (fun m => hQa m _ _ fullA cA.les_full) sp d.Plan.Pumps hd0 fun i hi => ⟨by have := (hc.hsp.idx i hi).1; omega, fun h => by cases h⟩
  rw [← e0] at this
  exact this
 have r2 : Runs n (Qst n a b) ⟨d.Valves, planOf n a (a.map (·.Rate)) (setAll false sp d.Plan.Pumps)⟩ (fallsAll (-1) ramp rest a b) ⟨d.Valves.map (vmv (tks (fallsAll (-1) ramp rest a b))), planOf n a (a.map (mr b)) (setAll false sp d.Plan.Pumps)⟩ :=
  fallsAll_run hn hd.plan ha hru fedA (hQa _) (.inr rfl) hr hs rfl (ff := (·.Rate)) (tf := mr b) (fun u hu => by
   have := mr_rng (l := b) (u := u) (fun y hy => (hb.paths y hy).small.2.1) (ha.paths u hu).small.2.1
   refine ⟨by omega, this.1, this.2, fun t h0 h1 => ?_⟩
   show u.Rate + -1 * t ≤ u.Rate ∧ mr b u ≤ u.Rate + -1 * t
   omega) a [] rfl d.Valves hd.vs hd.ready
 have htl : tks (sp.map sStop ++ fallsAll (-1) ramp rest a b) = tks (fallsAll (-1) ramp rest a b) := by rw [tks_append, tks_stops]; omega
 have htn := hc.tn
 rw [htl] at htn
 have ht0 := (tks_rng (fallsAll (-1) ramp rest a b)).1
 generalize tks (fallsAll (-1) ramp rest a b) = later at r2 htn ht0
 have hv2 := hd.vs.pass ht0
 have hd2 : DeskOk n ⟨d.Valves.map (vmv later), planOf n a (a.map (mr b)) (setAll false sp d.Plan.Pumps)⟩ := deskOf hd.plan ha cA hru hv2 (vready_pass hd.vs hd.ready ht0) (fedA _ cA (.refl _))
 have hsub : ∀ k : Nat, (needs (planOf n a (a.map (mr b)) (setAll false sp d.Plan.Pumps)))[k]? = some true → (needs to)[k]? = some true := fun k hk => by
  rw [hcom] at hk
  exact needs_part ht hb cB hk
 have hcmd : ∀ c, c ∈ cs.map (fun i => (i, false)) ++ os.map (fun i => (i, true)) → (needs to)[c.1]? = some c.2 := by
  intro c hcm
  rcases List.mem_append.1 hcm with h | h
  ·obtain ⟨i, hi, rfl⟩ := List.mem_map.1 h
   obtain ⟨v, _, h, _⟩ := htn.tc i hi; exact h
  ·obtain ⟨i, hi, rfl⟩ := List.mem_map.1 h
   obtain ⟨v, _, h, _⟩ := htn.to_ i hi; exact h
 obtain ⟨r3, hd3⟩ := cmds_run hn hsub (by rw [hnl]; exact hvl) (Q := Qst n a b) (fun vs => hQa _ vs _ cA (.refl _)) _ _ hcmd hd2
 have e3 : (cs.map (fun i => (i, false)) ++ os.map fun i => (i, true)).map cmdStep = cs.map sClose ++ os.map sOpen := by
  rw [List.map_append, List.map_map, List.map_map]; rfl
 rw [e3] at r3
 have r4 := waits_run hn hd3 (t := most) (by have := htn.rng; omega) (Q := Qst n a b) fun vs => hQa _ vs _ cA (.refl _)
 dsimp only at r4
 rw [turn_fin hv2 (by rw [List.length_map]; exact hnl) htn, finV_of_pass] at r4
 have hfv := finV_ok hd.vs hnl
 rw [hcom] at r4
 have r5 : Runs n (Qst n a b) ⟨finV d.Valves (needs to), planOf n b (b.map (mr a)) (setAll false sp d.Plan.Pumps)⟩ (fallsAll 1 ramp rest b a) ⟨finV d.Valves (needs to), planOf n b (b.map (·.Rate)) (setAll false sp d.Plan.Pumps)⟩ := by
  have := fallsAll_run hn ht hb hru fedB (hQb _) (.inl rfl) hr hs rfl (ff := mr a) (tf := (·.Rate)) (fun u hu => by
   have := mr_rng (l := a) (u := u) (fun y hy => (ha.paths y hy).small.2.1) (hb.paths u hu).small.2.1
   refine ⟨by omega, this.1, this.2, fun t h0 h1 => ?_⟩
   omega) b [] rfl _ hfv (finV_ready hnl)
  rw [finV_pass hd.vs hnl (tks_rng _).1] at this
  exact this
 have hd5 := deskOf ht hb fullB hru hfv (finV_ready hnl) (fedB _ fullB cB.les_full)
 have ePlan : (⟨ratesOf n b (b.map (·.Rate)), portsOf n b (b.map (·.Rate)), to.Pumps⟩ : Plan) = to := planOf_full ht hb
 have eS : setAll true ss (setAll false sp d.Plan.Pumps) = to.Pumps := by
  refine List.ext_getElem? fun i => ?_
  rw [setAll_at]
  have htm := ht.ml
  by_cases hi : i < n.Stations.length
  ·have hx : to.Pumps[i]? = some (to.Pumps[i]'(by omega)) := gq _
   have hy : (setAll false sp d.Plan.Pumps)[i]? = some ((setAll false sp d.Plan.Pumps)[i]'(by omega)) := gq _
   generalize to.Pumps[i]'(by omega) = x at hx
   generalize (setAll false sp d.Plan.Pumps)[i]'(by omega) = y at hy
   by_cases hm : i ∈ ss
   ·rw [if_pos ⟨hm, by omega⟩, (hc.hss.idx i hm).2.2]
   ·rw [if_neg fun h => hm h.1, hx, hy]
    cases x <;> cases y <;> try rfl
    ·have := (hc.hsp.keep i hy).2.1
     rw [hx] at this; cases this
    ·exact absurd (hc.hss.all i hx hy) hm
  ·rw [if_neg fun h => hi (by omega), List.getElem?_eq_none (by omega), List.getElem?_eq_none (by omega)]
 have r6 := pumps_run hn (Q := Qst n a b) true (fun m => hQb m _ _ fullB cB.les_full) ss (setAll false sp d.Plan.Pumps) hd5 fun i hi => by
  have := (hc.hss.idx i hi)
  refine ⟨by have := ht.ml; omega, fun _ st hst => ?_⟩
  have h := hf i st hst this.2.2
  rw [← ePlan] at h
  exact h
 rw [eS, ePlan] at r6
 rw [hcom] at r2 r3
 refine ⟨?_, hfv, ht, finV_ready hnl, hf⟩
 unfold out27
 exact ((((r1.append r2).append r3).append r4).append r5).append r6
end Go.Proofs.YtmaamhgjeampmaaGreat
