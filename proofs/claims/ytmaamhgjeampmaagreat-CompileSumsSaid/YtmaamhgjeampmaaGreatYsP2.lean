/- Plain proofs. No condition. -/
import Derived.Test.YtmaamhgjeampmaaGreatYsP1
import Derived.Test.YtmaamhgjeampmaaGreatYsD
import Derived.KernelRfl
set_option maxRecDepth 100000
namespace Go.Proofs.YtmaamhgjeampmaaGreat
set_option linter.unusedVariables false
set_option linter.unusedSimpArgs false
open Go.Aw
def vmv (t : Int) (v : Valve) : Valve := ⟨v.Travel, if v.Want = true then min v.Travel (v.Open + t) else max 0 (v.Open - t), v.Want, v.Stuck⟩
structure VOk (v : Valve) : Prop where
 travel : 1 ≤ v.Travel ∧ v.Travel ≤ 60
 opn : 0 ≤ v.Open ∧ v.Open ≤ v.Travel
 free : v.Stuck = false
theorem VOk.valid {v : Valve} (h : VOk v) : L.zsid v = true := by
 have h1 := h.travel; have h2 := h.opn
 simp only [L.zsid, Bool.and_eq_true, decide_eq_true_eq]; omega
theorem VOk.validP {v : Valve} (h : VOk v) : L.zdpk v = true := h.valid
theorem vmv_ok {v : Valve} (h : VOk v) {t : Int} (ht : 0 ≤ t) : VOk (vmv t v) := by
 have h1 := h.travel; have h2 := h.opn
 refine ⟨h1, ?_, h.free⟩
 unfold vmv
 dsimp only
 split <;> omega
theorem vmv_most {v : Valve} (h : VOk v) {t : Int} (ht : 0 ≤ t) : vmv (min t 60) v = vmv t v := by
 have h1 := h.travel; have h2 := h.opn
 obtain ⟨a, b, c, d⟩ := v
 unfold vmv
 dsimp only at h1 h2 ⊢
 congr 1
 cases c <;> simp <;> omega
theorem passP {v : Valve} (h : VOk v) {t : Int} (ht : 0 ≤ t ∧ t ≤ 400) : L.zwje v t = (vmv t v, 0) := by
 have h1 := h.travel; have h2 := h.opn; have h3 := h.free
 unfold L.zwje
 rw [h.validP, if_neg (by simp), if_neg (by simp; omega)]
 congr 1
 unfold L.zexx L.zexx.J1 L.zhgw
 obtain ⟨a, b, c, d⟩ := v
 dsimp only at h1 h2 h3 ⊢
 subst h3
 have key : ∀ o : Int, (if ((a == a) && ((o == b) && ((c == c) && ((false == false) && true)))) = true then (⟨a, b, c, false⟩ : Valve) else ⟨a, o, c, false⟩) = ⟨a, o, c, false⟩ := by
  intro o
  split
  ·rename_i hb
   have : o = b := by simpa using hb
   rw [this]
  ·rfl
 simp only [key]
 unfold vmv
 dsimp only
 cases c
 ·simp only [Bool.false_eq_true, if_false]
  rw [if_neg (by simp; omega), wr_id (by omega)]
 ·simp only [Bool.false_eq_true, if_false, if_true]
  split
  ·rw [wr_id (by omega)]
  ·rename_i hb
   have : ¬ b < a := by simpa using hb
   rw [wr_id (by omega)]; congr 1; omega
theorem openP {v : Valve} (h : VOk v) : L.zeio v = (v.Open == v.Travel) := by unfold L.zeio; rw [h.validP]; rfl
theorem closedP {v : Valve} (h : VOk v) : L.zaik v = (v.Open == 0) := by unfold L.zaik; rw [h.validP]; rfl
theorem leftP {v : Valve} (h : VOk v) : L.zvdf v = if v.Want = true then v.Travel - v.Open else v.Open := by
 have h1 := h.travel; have h2 := h.opn; have h3 := h.free
 unfold L.zvdf L.zhgw
 rw [h.validP, h3, if_neg (by simp), if_neg (by simp)]
 split <;> (rw [wr_id (by omega), wr_id (by omega)]; omega)
def VsOk (n : Network) (vs : List Valve) : Prop := vs.length = n.Segments.length + n.Ports.length ∧ ∀ v, v ∈ vs → VOk v
theorem VsOk.at {n : Network} {vs : List Valve} (h : VsOk n vs) {k : Nat} {v : Valve} (hk : vs[k]? = some v) : VOk v := h.2 v (mg hk)
theorem VsOk.set {n : Network} {vs : List Valve} (h : VsOk n vs) {k : Nat} {v : Valve} (hv : VOk v) : VsOk n (vs.set k v) := by
 refine ⟨by rw [List.length_set]; exact h.1, fun u hu => ?_⟩
 rcases List.mem_or_eq_of_mem_set hu with h' | rfl
 ·exact h.2 u h'
 ·exact hv
def needs (p : Plan) : List Bool := p.Rates.map (fun r => r != 0) ++ p.Ports.map fun r => r != 0
theorem needs24 {p : Plan} (h1 : p.Rates.length ≤ 1000) (h2 : p.Ports.length ≤ 1000) : L.zyrr p = some ⟨p.Rates.map (fun r => r != 0), p.Ports.map fun r => r != 0⟩ := by
 have : Ok (L.zyrr p) fun r => r = ⟨p.Rates.map (fun r => r != 0), p.Ports.map fun r => r != 0⟩ := by
  unfold L.zyrr
  refine .bind (Q := fun d => d = p.Rates.map fun r => r != 0) ?_ ?_
  ·refine .loop (S := List Bool × Int) (fun st => ∃ k : Nat, st = ((p.Rates.take k).map (fun r => r != 0), (k : Int)) ∧ k ≤ p.Rates.length) (fun st => p.Rates.length - st.2.toNat) ⟨0, rfl, by omega⟩ (by dsimp only; omega) ?_
   rintro _ ⟨k, rfl, hk⟩
   unfold L.zyrr.B4
   refine Ok.iteD (fun hlt => ?_) fun hge => .pure ?_
   ·dsimp only at hlt
    have hx : p.Rates[k]? = some (p.Rates[k]'(by omega)) := gq _
    generalize p.Rates[k]'(by omega) = x at hx
    refine .bind' (.eq (ix_nat hx) (.bind' (.app (by simp; omega) (.pure ⟨⟨k + 1, ?_, by omega⟩, ?_⟩))))
    ·rw [wr_id (by dsimp only; omega), List.take_add_one, hx, List.map_append]; rfl
    ·dsimp only; rw [wr_id (by omega)]; omega
   ·dsimp only at hge
    show (p.Rates.take k).map _ = _
    rw [List.take_of_length_le (by omega)]
  ·rintro _ rfl
   unfold L.zyrr.J1
   refine .bind (Q := fun d => d = p.Ports.map fun r => r != 0) ?_ ?_
   ·refine .loop (S := List Bool × Int) (fun st => ∃ k : Nat, st = ((p.Ports.take k).map (fun r => r != 0), (k : Int)) ∧ k ≤ p.Ports.length) (fun st => p.Ports.length - st.2.toNat) ⟨0, rfl, by omega⟩ (by dsimp only; omega) ?_
    rintro _ ⟨k, rfl, hk⟩
    unfold L.zyrr.B3
    refine Ok.iteD (fun hlt => ?_) fun hge => .pure ?_
    ·dsimp only at hlt
     have hx : p.Ports[k]? = some (p.Ports[k]'(by omega)) := gq _
     generalize p.Ports[k]'(by omega) = x at hx
     refine .bind' (.eq (ix_nat hx) (.bind' (.app (by simp; omega) (.pure ⟨⟨k + 1, ?_, by omega⟩, ?_⟩))))
     ·rw [wr_id (by dsimp only; omega), List.take_add_one, hx, List.map_append]; rfl
     ·dsimp only; rw [wr_id (by omega)]; omega
    ·dsimp only at hge
     show (p.Ports.take k).map _ = _
     rw [List.take_of_length_le (by omega)]
   ·rintro _ rfl
    exact .pure rfl
 obtain ⟨r, h, rfl⟩ := this
 exact h
theorem all24 {a b : List Bool} (h1 : a.length ≤ 1000) (h2 : b.length ≤ 1000) : L.zjdk ⟨a, b⟩ = some (a ++ b) := by
 unfold L.zjdk
 dsimp only
 rw [app?_eq (by simp; omega)]
 show Option.bind (app? ([] ++ a) b) _ = _
 rw [app?_eq (by simp; omega)]; rfl
theorem numbersP {a b : List Bool} (h1 : a.length ≤ 1000) (h2 : b.length ≤ 1000) : L.zvjf ⟨a, b⟩ = some (a ++ b) := all24 h1 h2
theorem flowsP {l : List Int} (h : l.length ≤ 1000) : L.zync l = some (l.map fun r => r != 0) := by
 have : Ok (L.zync l) fun r => r = l.map fun r => r != 0 := by
  unfold L.zync
  refine .bind (.forS (fun k st => st = (l.take k).map fun r => r != 0) rfl ?_ fun st h => h) ?_
  ·rintro k x _ hx rfl
   have := (gs hx).1
   unfold L.zync.B2
   refine .bind' (.app (by simp; omega) (.pure ?_))
   rw [List.take_add_one, hx, List.map_append]; rfl
  ·rintro _ rfl
   exact .pure (by rw [List.take_length])
 obtain ⟨r, h, rfl⟩ := this
 exact h
theorem needP {n : Network} (hn : NetOk n) {p : Plan} (h : FlowOk n p) : L.zoqk n p = some (⟨p.Rates.map (fun r => r != 0), p.Ports.map fun r => r != 0⟩, 0) := by
 have h1 := hn.segs1; have h2 := hn.ports1; have h4 := h.rl; have h5 := h.pl
 unfold L.zoqk
 rw [netCheck hn, flowCheckF hn h, flowsP (by omega), flowsP (by omega)]
 rfl
def VReady (vs : List Valve) (nd : List Bool) : Prop := ∀ k : Nat, nd[k]? = some true → ∃ v, vs[k]? = some v ∧ v.Open = v.Travel ∧ v.Want = true
theorem needs_len {n : Network} {p : Plan} (h1 : p.Rates.length = n.Segments.length) (h2 : p.Ports.length = n.Ports.length) : (needs p).length = n.Segments.length + n.Ports.length := by simp [needs, h1, h2]
structure DeskOk (n : Network) (d : Desk) : Prop where
 vs : VsOk n d.Valves
 plan : PlanOk n d.Plan
 ready : VReady d.Valves (needs d.Plan)
 fed : FedP n d.Plan
theorem containsFunc_Valve {s : List Valve} {g : Valve → Option Bool} (hg : ∀ (k : Nat) (x : Valve), s[k]? = some x → g x = some false) : L.zfxq s g = some false := by
 have : Ok (L.zfxq s g) fun r => r = false := by
  unfold L.zfxq
  refine .bind (Q := fun r => r = -1) ?_ ?_
  ·unfold L.znus
   refine .bind' (.forL (fun k _ => True) (fun r => False) trivial ?_ ?_ fun _ h => h.elim)
   ·intro k x _ hx _
    unfold L.znus.B2
    exact .bind' (.eq (hg k x hx) (Ok.iteB (fun h => by cases h) fun _ => .pure trivial))
   ·intro _ _
    exact .pure rfl
  ·rintro _ rfl
   exact .pure rfl
 obtain ⟨r, h, rfl⟩ := this
 exact h
theorem checkP {n : Network} (hn : NetOk n) {d : Desk} (h : DeskOk n d) : L.zkzk n d = some 0 := by
 have h1 := hn.segs1; have h2 := hn.ports1; have h4 := h.plan.rl; have h5 := h.plan.pl; have hl := h.vs.1
 have hnl := needs_len h4 h5
 have : Ok (L.zkzk n d) fun r => r = 0 := by
  unfold L.zkzk L.zwom
  rw [netCheck hn, wr_id (by omega), containsFunc_Valve fun k x hx => by unfold L.zfpn; rw [(h.vs.at hx).validP]; rfl]
  refine .bind' (.pure (Ok.iteU (fun h => absurd rfl h) fun _ => Ok.iteU (fun h => by omega) fun _ => .bind' (.pure ?_)))
  unfold L.zkzk.J1
  rw [flowCheckF hn h.plan.flow, needP hn h.plan.flow]
  refine Ok.iteB (fun h => by cases h) fun _ => .bind' (.pure (Ok.iteU (fun h => absurd rfl h) fun _ => .bind' (.pure (Ok.iteU (fun h => absurd rfl h) fun _ => ?_))))
  rw [numbersP (by simp; omega) (by simp; omega)]
  refine .bind' (.pure (.bind' (.forI (fun _ _ => True) (fun _ => False) trivial ?_ ?_ fun _ h => h.elim)))
  ·intro k _ hk _
   have hk' : k < (needs d.Plan).length := hk
   unfold L.zkzk.B3 L.zkzk.J4
   have hx : (needs d.Plan)[k]? = some ((needs d.Plan)[k]'(by omega)) := gq _
   refine .bind' (.eq (ix_nat hx) (Ok.iteB (fun hb => ?_) fun _ => Ok.iteB (fun h => by cases h) fun _ => .pure trivial))
   dsimp only at hb
   obtain ⟨v, hv, a, b⟩ := h.ready k (by rw [hx, hb])
   refine .bind' (.eq (ix_nat hv) ?_)
   dsimp only
   unfold L.zayo
   rw [openP (h.vs.at hv), a, b]
   simp only [beq_self_eq_true, Bool.true_and, Bool.not_true]
   exact Ok.iteB (fun h => by cases h) fun _ => .pure trivial
  ·intro _ _
   simp only [Sum.elim_inl]
   unfold L.zkzk.J2
   rw [idles_ok hn h.plan.flow h.fed]
   exact .bind' (.pure (Ok.iteB (fun h => by cases h) fun _ => .pure rfl))
 obtain ⟨r, h, rfl⟩ := this
 exact h
def sOpen (i : Nat) : Step := ⟨1, (i : Int), 0, ⟨0, 0, [], 0⟩⟩
def sClose (i : Nat) : Step := ⟨2, (i : Int), 0, ⟨0, 0, [], 0⟩⟩
def sStart (i : Nat) : Step := ⟨3, (i : Int), 0, ⟨0, 0, [], 0⟩⟩
def sStop (i : Nat) : Step := ⟨4, (i : Int), 0, ⟨0, 0, [], 0⟩⟩
def sFlow (u : Path) (v : Int) : Step := ⟨5, 0, v, ⟨u.In, u.Out, u.Hops, 0⟩⟩
def sWait (t : Int) : Step := ⟨6, 0, t, ⟨0, 0, [], 0⟩⟩
theorem copyPlan25 {p : Plan} (h1 : p.Rates.length ≤ 1000) (h2 : p.Ports.length ≤ 1000) (h3 : p.Pumps.length ≤ 1000) : L.zbxx p = some p := by
 unfold L.zbxx
 rw [app?_eq (by simp; omega), app?_eq (by simp; omega), app?_eq (by simp; omega)]; rfl
def want (b : Bool) (v : Valve) : Valve := ⟨v.Travel, v.Open, b, v.Stuck⟩
theorem PathOk.hop {n : Network} {up : Bool} {p : Plan} (hr : Res n up p.Rates p.Ports) {u : Path} (hu : PathOk n p u) {j : Nat} {h : Hop} (hj : u.Hops[j]? = some h) :
  ∃ (k : Nat) (s : Segment) (r : Int), h.Segment = (k : Int) ∧ n.Segments[k]? = some s ∧ p.Rates[k]? = some r ∧ (h.Back = false ∧ 0 < r ∨ h.Back = true ∧ r < 0) ∧ (∀ v, fs k u v = sgn v h) ∧ ∀ v, hsum v k (u.Hops.take j) = 0 := by
 obtain ⟨i, o, p0, po, y0, y1, nd, e1, e2, e3, e4, e5, e6, e7, e8, w, e9, e10, e11, e12, e13⟩ := hu
 obtain ⟨k, s, r, q1, q2, q3, q4⟩ := w.hop j h hj
 have once : ∀ (j' : Nat) (y : Hop), j' ≠ j → u.Hops[j']? = some y → y.Segment ≠ (k : Int) := fun j' y hj' hy he => hj' (w.once hr hy hj (he.trans q1.symm))
 refine ⟨k, s, r, q1, q2, q3, ?_, fun v => hsum_one hj q1 once, fun v => hsum_zero fun y hy => ?_⟩
 ·rcases q4 with ⟨b, q, _⟩ | ⟨b, q, _⟩
  ·exact .inl ⟨b, q⟩
  ·exact .inr ⟨b, q⟩
 ·obtain ⟨m, hm⟩ := List.getElem?_of_mem hy
  have hml := (gs hm).1
  rw [List.length_take] at hml
  rw [List.getElem?_take] at hm
  split at hm
  ·exact once m y (by omega) hm
  ·cases hm
theorem PathOk.ends {n : Network} {p : Plan} {u : Path} (hu : PathOk n p u) : ∃ (i o : Nat) (y0 y1 : Int), u.In = (i : Int) ∧ u.Out = (o : Int) ∧ i ≠ o ∧ i < n.Ports.length ∧ o < n.Ports.length ∧ p.Ports[i]? = some y0 ∧ 0 < y0 ∧ p.Ports[o]? = some y1 ∧ y1 < 0 := by
 obtain ⟨i, o, p0, po, y0, y1, nd, e1, e2, e3, e4, e5, e6, e7, e8, w, e9, e10, e11, e12, e13⟩ := hu
 exact ⟨i, o, y0, y1, e1, e2, by rintro rfl; rw [e5] at e7; simp at e7; omega, (gs e3).1, (gs e4).1, e5, e6, e7, e8⟩
def waits (t : Int) : List Step := if 0 < t then [sWait t] else []
theorem waits_len (t : Int) : (waits t).length ≤ 1 := by unfold waits; split <;> simp
theorem comp1 {t : Int} (ht : t ≤ 100) (h0 : -1000 ≤ t) {l : List Step} (hl : l.length ≤ 1000000) : L.zlwi t l = some (l ++ waits t) := by
 have : Ok (L.zlwi t l) fun r => r = l ++ waits t := by
  unfold L.zlwi
  refine .bind (Q := fun r => r = l ++ waits t) ?_ (by rintro _ rfl; exact .pure rfl)
  refine .loop (S := List Step × Int) (fun st => st = (l, t) ∨ st.1 = l ++ waits t ∧ -1000 ≤ st.2 ∧ st.2 ≤ 0) (fun st => if st.2 ≤ 0 then 0 else 1) (.inl rfl) (by split <;> omega) ?_
  rintro st (rfl | ⟨h1, h2⟩)
  ·unfold L.zlwi.B1
   refine Ok.iteD (fun hp => ?_) fun hp => .pure ?_
   ·dsimp only at hp
    refine .bind' (.app (by simp; omega) (.pure ⟨.inr ⟨?_, ?_⟩, ?_⟩))
    ·unfold waits; rw [if_pos hp]; dsimp only; rw [show min t 100 = t by omega]; rfl
    ·dsimp only; rw [wr_id (by omega)]; omega
    ·dsimp only; rw [wr_id (by omega), if_pos (by omega), if_neg (by omega)]; omega
   ·dsimp only at hp
    show l = _
    unfold waits; rw [if_neg hp]; simp
  ·unfold L.zlwi.B1
   exact Ok.iteD (fun hp => by omega) fun _ => .pure h1
 obtain ⟨r, h, rfl⟩ := this
 exact h
def falls (u : Path) (sign ramp rest : Int) (b : Int) : List Step :=
 if h : 0 < b ∧ 0 < ramp then sFlow u (sign * min b ramp) :: (waits rest ++ falls u sign ramp rest (b - ramp)) else []
termination_by b.toNat
decreasing_by omega
theorem falls_pos {u : Path} {sign ramp rest b : Int} (h : 0 < b) (hr : 0 < ramp) : falls u sign ramp rest b = sFlow u (sign * min b ramp) :: (waits rest ++ falls u sign ramp rest (b - ramp)) := by
 rw [falls, dif_pos ⟨h, hr⟩]
theorem falls_nil {u : Path} {sign ramp rest b : Int} (h : b ≤ 0) : falls u sign ramp rest b = [] := by
 rw [falls, dif_neg (by omega)]
theorem cloneHop {l : List Hop} (h : l.length ≤ 1000) : L.zjlw l = some l := by
 unfold L.zjlw; rw [app?_eq (by simp; omega)]; rfl
theorem comp2 {u : Path} (hu : u.Hops.length ≤ 5) {b sign ramp rest : Int} (hs : sign = 1 ∨ sign = -1) (hr : 1 ≤ ramp ∧ ramp ≤ 1000) (ht : 0 ≤ rest ∧ rest ≤ 100) (hb : -1000 ≤ b ∧ b ≤ 1000) {out : List Step} (ho : out.length ≤ 500000) :
  L.zihi u b sign ramp out rest = some (out ++ falls u sign ramp rest b) := by
 have : Ok (L.zihi u b sign ramp out rest) fun r => r = out ++ falls u sign ramp rest b := by
  unfold L.zihi
  rw [cloneHop (by omega)]
  refine .bind' (.pure (.bind (Q := fun r => r = out ++ falls u sign ramp rest b) ?_ (by rintro _ rfl; exact .pure rfl)))
  refine .loop (S := List Step × Int) (fun st => st.1 ++ falls u sign ramp rest st.2 = out ++ falls u sign ramp rest b ∧ -1000 ≤ st.2 ∧ st.2 ≤ 1000 ∧ st.1.length + 2 * st.2.toNat ≤ out.length + 2 * b.toNat) (fun st => st.2.toNat) ⟨rfl, hb.1, hb.2, Nat.le_refl _⟩ (by dsimp only; omega) ?_
  rintro ⟨l, c⟩ ⟨i1, i2, i3, i4⟩
  dsimp only at i1 i2 i3 i4
  unfold L.zihi.B1
  refine Ok.iteD (fun hp => ?_) fun hp => .pure ?_
  ·dsimp only at hp
   refine .bind' (.app (by simp; omega) ?_)
   rw [comp1 (by omega) (by omega) (by simp; omega)]
   dsimp only
   refine .bind' (.pure (.pure ⟨⟨?_, by dsimp only; rw [wr_id (x := c - ramp) (by omega)]; omega, by dsimp only; rw [wr_id (x := c - ramp) (by omega)]; omega, ?_⟩, by dsimp only; rw [wr_id (x := c - ramp) (by omega)]; omega⟩))
   ·dsimp only
    rw [wr_id (x := c - ramp) (by omega), ← i1, falls_pos hp (by omega)]
    have : wr (sign * min c ramp) = sign * min c ramp := wr_id (by rcases hs with rfl | rfl <;> omega)
    rw [this, List.append_assoc, List.append_assoc]; rfl
   ·have := waits_len rest
    dsimp only; rw [wr_id (x := c - ramp) (by omega)]
    simp only [List.length_append, List.length_singleton]; omega
  ·dsimp only at hp
   show l = _
   rw [← i1, falls_nil (by omega), List.append_nil]
 obtain ⟨r, h, rfl⟩ := this
 exact h
theorem within_ok {l other : List Path} (ha : Apart other) (hl : l.length ≤ 1000) : L.zdgq l other = some (l.map (mr other)) := by
 have : Ok (L.zdgq l other) fun r => r = l.map (mr other) := by
  unfold L.zdgq
  refine .bind (.forS (fun k st => st = (l.take k).map (mr other)) rfl ?_ fun st h => h) ?_
  ·rintro k x _ hx rfl
   have hkl := (gs hx).1
   have j3 : ∀ z, z = mr other x → Ok (L.zdgq.J3 ((l.take k).map (mr other)) z) fun st => st = (l.take (k + 1)).map (mr other) := by
    rintro z rfl
    unfold L.zdgq.J3
    refine .bind' (.app (by simp; omega) (.pure ?_))
    rw [List.take_add_one, hx, List.map_append]; rfl
   unfold L.zdgq.B2
   refine .bind find_path ?_
   rintro m (⟨rfl, hno⟩ | ⟨k', y, rfl, hy, ha'⟩)
   ·refine Ok.iteD (fun h => by omega) fun _ => j3 _ (mr_none hno).symm
   ·refine Ok.iteD (fun _ => .bind' (.eq (ix_nat hy) ?_)) fun h => by omega
    exact j3 _ (mr_at ha hy ha').symm
  ·rintro _ rfl
   exact .pure (by rw [List.take_length])
 obtain ⟨r, h, rfl⟩ := this
 exact h
def cmn (b : List Path) : List Path → List Path
 | [] => []
 | u :: a => if 0 < mr b u then rated u (mr b u) :: cmn b a else cmn b a
theorem cmn_tot {F : Path → Int → Int} (h0 : ∀ u, F u 0 = 0) (hA : ∀ u v r, Alike u v → F u r = F v r) {b : List Path} : ∀ {a : List Path}, (∀ u, u ∈ a → 0 ≤ mr b u) → tot F (cmn b a) ((cmn b a).map (·.Rate)) = tot F a (a.map (mr b))
 | [], _ => rfl
 | u :: a, h => by
  have ih := cmn_tot h0 hA (a := a) fun v hv => h v (by simp [hv])
  have := h u (by simp)
  simp only [cmn, List.map_cons, tot]
  split
  ·simp only [List.map_cons, tot, ih]
   congr 1
   exact hA _ _ _ ⟨rfl, rfl, rfl⟩
  ·rw [ih, show mr b u = 0 by omega, h0]; omega
theorem cmn_append (b : List Path) : ∀ (a : List Path) (u : Path), cmn b (a ++ [u]) = cmn b a ++ if 0 < mr b u then [rated u (mr b u)] else []
 | [], u => by simp only [List.nil_append, cmn]
 | v :: a, u => by
  simp only [List.cons_append, cmn, cmn_append b a u]
  split <;> simp
theorem cmn_len (b : List Path) : ∀ a : List Path, (cmn b a).length ≤ a.length
 | [] => by simp [cmn]
 | v :: a => by have := cmn_len b a; simp only [cmn]; split <;> simp <;> omega
theorem mem_cmn {b : List Path} : ∀ {a : List Path} {y : Path}, y ∈ cmn b a → ∃ u, u ∈ a ∧ 0 < mr b u ∧ y = rated u (mr b u)
 | [], y, h => by simp [cmn] at h
 | v :: a, y, h => by
  simp only [cmn] at h
  split at h
  ·rename_i hs
   rcases List.mem_cons.1 h with rfl | h
   ·exact ⟨v, by simp, hs, rfl⟩
   ·obtain ⟨u, h1, h2⟩ := mem_cmn h; exact ⟨u, by simp [h1], h2⟩
  ·obtain ⟨u, h1, h2⟩ := mem_cmn h; exact ⟨u, by simp [h1], h2⟩
theorem common_list {n m : Network} {p q : Plan} {a b : List Path} (ha : ∀ x, x ∈ a → PathOk n p x) (hb : ∀ x, x ∈ b → PathOk m q x) (hal : a.length ≤ 1000) (hbp : Apart b) : L.zprq a b = some (cmn b a) := by
 have : Ok (L.zprq a b) fun r => r = cmn b a := by
  unfold L.zprq
  refine .bind (.forS (fun k st => st = cmn b (a.take k)) rfl ?_ fun st h => h) ?_
  ·rintro k x _ hx rfl
   have hkl := (gs hx).1
   have hxs := (ha x (mg hx)).small
   have hcl := cmn_len b (a.take k)
   rw [List.length_take] at hcl
   have e : cmn b (a.take (k + 1)) = cmn b (a.take k) ++ if 0 < mr b x then [rated x (mr b x)] else [] := by rw [List.take_add_one, hx]; exact cmn_append _ _ _
   unfold L.zprq.B2
   refine .bind find_path ?_
   rintro m (⟨rfl, hno⟩ | ⟨k', y, rfl, hy, ha'⟩)
   ·refine Ok.iteD (fun h => by omega) fun _ => ?_
    unfold L.zprq.J3
    exact .pure (by rw [e, mr_none hno]; simp)
   ·have hys := (hb y (mg hy)).small
    refine Ok.iteD (fun _ => .bind' (.eq (ix_nat hy) ?_)) fun h => by omega
    dsimp only
    rw [with_ok (by omega)]
    refine .bind' (.pure (.bind' (.app (by simp; omega) ?_)))
    unfold L.zprq.J3
    refine .pure ?_
    rw [e, mr_at hbp hy ha', if_pos (by omega)]; rfl
  ·rintro _ rfl
   exact .pure (by rw [List.take_length])
 obtain ⟨r, h, rfl⟩ := this
 exact h
theorem commonP {n m : Network} (hn : NetOk n) {up : Bool} {p q : Plan} {a b : List Path} (hd : Divided n up p a) (hb : ∀ x, x ∈ b → PathOk m q x) (hbp : Apart b) :
  L.zygk n a b = some (planOf n a (a.map (mr b)) (List.replicate n.Stations.length false)) := by
 have h1 := hn.segs1; have h2 := hn.ports1; have h3 := hn.sts1; have hcl := cmn_len b a; have hct := hd.count
 have hok : ∀ x, x ∈ cmn b a → PathOk n p x := fun x hx => by
  obtain ⟨u, hu, h0, rfl⟩ := mem_cmn hx
  have hus := hd.paths u hu
  have := mr_rng (l := b) (u := u) (fun y hy => (hb y hy).small.2.1) hus.small.2.1
  exact hus.rated (by have := hus.small; omega)
 have hmr : ∀ u, u ∈ a → 0 ≤ mr b u := fun u hu => (mr_rng (l := b) (u := u) (fun y hy => (hb y hy).small.2.1) (hd.paths u hu).small.2.1).1
 have : Ok (L.zygk n a b) fun r => r = planOf n a (a.map (mr b)) (List.replicate n.Stations.length false) := by
  unfold L.zygk
  refine .bind' (.mk n.Segments.length rfl (by omega) (.bind' (.mk n.Ports.length rfl (by omega) (.bind' (.mk n.Stations.length rfl (by omega) ?_)))))
  unfold L.zygk.J1
  rw [common_list hd.paths hb (by omega) hbp]
  refine .bind' (.pure (.bind (.forJ (fun j (st : List Int × List Int × List Bool) => st.1.length = n.Segments.length ∧ st.2.1.length = n.Ports.length ∧ st.2.2 = List.replicate n.Stations.length false ∧ (∀ (k : Nat) (r : Int), st.1[k]? = some r → r = segSum k ((cmn b a).take j)) ∧ ∀ (k : Nat) (r : Int), st.2.1[k]? = some r → r = portSum k ((cmn b a).take j))
   ⟨by simp, by simp, rfl, fun k r hk => ?_, fun k r hk => ?_⟩ ?_ fun st h => h) ?_))
  ·have := mg hk; simp at this; simp [segSum]; omega
  ·have := mg hk; simp at this; simp [portSum]; omega
  ·rintro j ⟨rates, ports, pu⟩ hj ⟨i1, i2, i3, i4, i5⟩
   dsimp only at i1 i2 i3 i4 i5
   have hx : (cmn b a)[j]? = some ((cmn b a)[j]'(by omega)) := gq _
   generalize (cmn b a)[j]'(by omega) = x at hx
   have ht : ∀ x, x ∈ (cmn b a).take j → PathOk n p x := fun x hx => hok x (List.mem_of_mem_take hx)
   have htl : ((cmn b a).take j).length ≤ 64 := by rw [List.length_take]; omega
   unfold L.zygk.B3
   refine .bind' (.eq (ix_nat hx) (.bind (grow_ok hd.res (hok x (mg hx)) i1 i2 (fun k r hk => by have := i4 k r hk; have := segSum_bnd k ht; omega) fun k r hk => by have := i5 k r hk; have := portSum_bnd k ht; omega) ?_))
   rintro q ⟨g1, g2, g3, g4, g5, g6⟩
   dsimp only at g1 g2 g3 g4 g5
   refine .pure ⟨by dsimp only; omega, by dsimp only; omega, by dsimp only; rw [g3, i3], fun k r hk => ?_, fun k r hk => ?_⟩
   ·dsimp only at hk
    have hkl := (gs hk).1
    have h0 : rates[k]? = some (rates[k]'(by omega)) := gq _
    have ha := g4 k _ h0
    have hb := i4 k _ h0
    rw [hk] at ha; simp at ha
    rw [segSum_take hx]; omega
   ·dsimp only at hk
    have hkl := (gs hk).1
    have h0 : ports[k]? = some (ports[k]'(by omega)) := gq _
    have ha := g5 k _ h0
    have hb := i5 k _ h0
    rw [hk] at ha; simp at ha
    rw [portSum_take hx]; omega
  ·rintro ⟨rates, ports, pu⟩ ⟨i1, i2, i3, i4, i5⟩
   rw [List.take_length] at i4 i5
   dsimp only at i1 i2 i3 i4 i5
   unfold L.zygk.J2
   refine .pure ?_
   unfold planOf
   subst i3
   congr 1
   ·refine List.ext_getElem? fun k => ?_
    by_cases hk : k < n.Segments.length
    ·have h0 : rates[k]? = some (rates[k]'(by omega)) := gq _
     dsimp only
     rw [ratesOf_at hk, h0, i4 k _ h0, ← tot_seg, cmn_tot (FS_zero k) (FS_alike k) hmr]
    ·rw [List.getElem?_eq_none (by dsimp only; omega), List.getElem?_eq_none (by rw [ratesOf_len]; omega)]
   ·refine List.ext_getElem? fun k => ?_
    by_cases hk : k < n.Ports.length
    ·have h0 : ports[k]? = some (ports[k]'(by omega)) := gq _
     dsimp only
     rw [portsOf_at hk, h0, i5 k _ h0, ← tot_port, cmn_tot (FP_zero k) (FP_alike k) hmr]
    ·rw [List.getElem?_eq_none (by dsimp only; omega), List.getElem?_eq_none (by rw [portsOf_len]; omega)]
 obtain ⟨r, h, rfl⟩ := this
 exact h
structure Turns (vs : List Valve) (nd : List Bool) (cs os : List Nat) (most : Int) : Prop where
 tc : ∀ i, i ∈ cs → ∃ v, vs[i]? = some v ∧ nd[i]? = some false ∧ v.Open ≤ most ∧ ¬ (v.Open = 0 ∧ v.Want = false)
 to_ : ∀ i, i ∈ os → ∃ v, vs[i]? = some v ∧ nd[i]? = some true ∧ v.Travel - v.Open ≤ most ∧ ¬ (v.Open = v.Travel ∧ v.Want = true)
 shut : ∀ (i : Nat) (v : Valve), vs[i]? = some v → nd[i]? = some false → i ∉ cs → v.Open = 0 ∧ v.Want = false
 open_ : ∀ (i : Nat) (v : Valve), vs[i]? = some v → nd[i]? = some true → i ∉ os → v.Open = v.Travel ∧ v.Want = true
 rng : 0 ≤ most ∧ most ≤ 60
 len : cs.length + os.length ≤ vs.length
 none_ : cs = [] → os = [] → most = 0
theorem turns_ok {n : Network} {d : Desk} (hv : VsOk n d.Valves) (hl : d.Valves.length ≤ 1000) {later : Int} (ht : 0 ≤ later) {nd : List Bool} (hnd : nd.length = d.Valves.length) :
  Ok (L.zppq d later nd) fun r => ∃ cs os most, r = (cs.map sClose ++ os.map sOpen, most, true) ∧ Turns (d.Valves.map (vmv later)) nd cs os most := by
 let T : Nat → List Nat → List Nat → Int → Prop := fun k cs os most => (∀ i, i ∈ cs → ∃ v, (d.Valves.map (vmv later))[i]? = some v ∧ nd[i]? = some false ∧ v.Open ≤ most ∧ ¬ (v.Open = 0 ∧ v.Want = false)) ∧
  (∀ i, i ∈ os → ∃ v, (d.Valves.map (vmv later))[i]? = some v ∧ nd[i]? = some true ∧ v.Travel - v.Open ≤ most ∧ ¬ (v.Open = v.Travel ∧ v.Want = true)) ∧
  (∀ (i : Nat) (v : Valve), i < k → (d.Valves.map (vmv later))[i]? = some v → nd[i]? = some false → i ∉ cs → v.Open = 0 ∧ v.Want = false) ∧
  (∀ (i : Nat) (v : Valve), i < k → (d.Valves.map (vmv later))[i]? = some v → nd[i]? = some true → i ∉ os → v.Open = v.Travel ∧ v.Want = true) ∧
  (0 ≤ most ∧ most ≤ 60) ∧ cs.length + os.length ≤ k ∧ (cs = [] → os = [] → most = 0)
 unfold L.zppq
 refine .bind' (.forL (fun k (st : List Step × List Step × Int) => ∃ cs os most, st = (cs.map sClose, os.map sOpen, most) ∧ T k cs os most) (fun _ => False)
  ⟨[], [], 0, rfl, by simp, by simp, fun i v h => absurd h (Nat.not_lt_zero _), fun i v h => absurd h (Nat.not_lt_zero _), by omega, by simp, fun _ _ => rfl⟩ ?_ ?_ fun _ h => h.elim)
 ·rintro k x _ hx ⟨cs, os, most, rfl, t1, t2, t3, t4, t5, t6, t7⟩
  have hkl := (gs hx).1
  have hxo := hv.at hx
  have hw := vmv_ok hxo ht
  have hwo := hw.opn; have hwt := hw.travel
  have e : L.zwje x (min later 60) = (vmv later x, 0) := by rw [passP hxo (by omega), vmv_most hxo ht]
  have hg : (d.Valves.map (vmv later))[k]? = some (vmv later x) := by rw [List.getElem?_map, hx]; rfl
  have hn : nd[k]? = some (nd[k]'(by omega)) := gq _
  generalize nd[k]'(by omega) = need at hn
  have others : ∀ (i : Nat) (v : Valve), i < k + 1 → (d.Valves.map (vmv later))[i]? = some v → i < k ∨ i = k ∧ v = vmv later x := by
   intro i v hi hvi
   by_cases h : i = k
   ·subst h; rw [hg] at hvi; simp at hvi; exact .inr ⟨rfl, hvi.symm⟩
   ·exact .inl (by omega)
  unfold L.zppq.B2
  rw [e]
  refine Ok.iteU (fun h => absurd rfl h) fun _ => .bind' (.eq (ix_nat hn) ?_)
  have j4 : ∀ (kd : Int) (there : Bool), (kd = if need = true then 1 else 2) → (there = true ↔ (vmv later x).Open = if need = true then (vmv later x).Travel else 0) →
    Ok (L.zppq.J4 later nd k x (cs.map sClose, os.map sOpen, most) (kd, there)) (Sum.elim (fun st => ∃ cs os most, st = (cs.map sClose, os.map sOpen, most) ∧ T (k + 1) cs os most) fun _ => False) := by
   intro kd there hkd hth
   have j5 : ∀ z : Bool, (z = true ↔ ((vmv later x).Open = if need = true then (vmv later x).Travel else 0) ∧ (vmv later x).Want = need) →
     Ok (L.zppq.J5 later nd k x (cs.map sClose, os.map sOpen, most) (kd, there) z) (Sum.elim (fun st => ∃ cs os most, st = (cs.map sClose, os.map sOpen, most) ∧ T (k + 1) cs os most) fun _ => False) := by
    intro z hz
    unfold L.zppq.J5
    rw [e]
    refine Ok.iteB (fun hb => ?_) fun hb => .bind' (.eq (ix_nat hn) ?_)
    ·obtain ⟨z1, z2⟩ := hz.1 hb
     unfold L.zppq.J3
     refine .pure ⟨cs, os, most, rfl, t1, t2, fun i v hi hvi hni hc => ?_, fun i v hi hvi hni hc => ?_, t5, by omega, t7⟩
     ·rcases others i v hi hvi with h | ⟨rfl, rfl⟩
      ·exact t3 i v h hvi hni hc
      ·rw [hn] at hni; simp at hni; subst hni; exact ⟨by simpa using z1, z2⟩
     ·rcases others i v hi hvi with h | ⟨rfl, rfl⟩
      ·exact t4 i v h hvi hni hc
      ·rw [hn] at hni; simp at hni; subst hni; exact ⟨by simpa using z1, z2⟩
    ·have hnz : ¬ (((vmv later x).Open = if need = true then (vmv later x).Travel else 0) ∧ (vmv later x).Want = need) := fun h => by have := hz.2 h; rw [hb] at this; cases this
     dsimp only
     rw [leftP (v := ⟨(vmv later x).Travel, (vmv later x).Open, need, (vmv later x).Stuck⟩) ⟨hw.travel, hw.opn, hw.free⟩]
     dsimp only
     refine Ok.iteD (fun h => by split at h <;> omega) fun _ => ?_
     subst hkd
     cases need
     ·refine Ok.iteB (fun h => by cases h) fun _ => .bind' (.app (by simp; omega) ?_)
      unfold L.zppq.J3
      refine .pure ⟨cs ++ [k], os, max most (vmv later x).Open, by simp [sClose], fun i hi => ?_, fun i hi => ?_, fun i v hi hvi hni hc => ?_, fun i v hi hvi hni hc => ?_, by omega, by simp; omega, fun h => by simp at h⟩
      ·rcases List.mem_append.1 hi with hi | hi
       ·obtain ⟨v, a, b, c, dd⟩ := t1 i hi; exact ⟨v, a, b, by omega, dd⟩
       ·have : i = k := by simpa using hi
        subst this; exact ⟨_, hg, hn, by omega, fun h => hnz ⟨by simpa using h.1, h.2⟩⟩
      ·obtain ⟨v, a, b, c, dd⟩ := t2 i hi; exact ⟨v, a, b, by omega, dd⟩
      ·rcases others i v hi hvi with h | ⟨rfl, rfl⟩
       ·exact t3 i v h hvi hni fun h' => hc (by simp [h'])
       ·exact absurd (by simp) hc
      ·rcases others i v hi hvi with h | ⟨rfl, rfl⟩
       ·exact t4 i v h hvi hni hc
       ·rw [hn] at hni; cases hni
     ·refine Ok.iteB (fun _ => .bind' (.app (by simp; omega) ?_)) fun h => by cases h
      unfold L.zppq.J3
      refine .pure ⟨cs, os ++ [k], max most ((vmv later x).Travel - (vmv later x).Open), by simp [sOpen], fun i hi => ?_, fun i hi => ?_, fun i v hi hvi hni hc => ?_, fun i v hi hvi hni hc => ?_, by omega, by simp; omega, fun _ h => by simp at h⟩
      ·obtain ⟨v, a, b, c, dd⟩ := t1 i hi; exact ⟨v, a, b, by omega, dd⟩
      ·rcases List.mem_append.1 hi with hi | hi
       ·obtain ⟨v, a, b, c, dd⟩ := t2 i hi; exact ⟨v, a, b, by omega, dd⟩
       ·have : i = k := by simpa using hi
        subst this; exact ⟨_, hg, hn, by omega, fun h => hnz ⟨by simpa using h.1, h.2⟩⟩
      ·rcases others i v hi hvi with h | ⟨rfl, rfl⟩
       ·exact t3 i v h hvi hni hc
       ·rw [hn] at hni; cases hni
      ·rcases others i v hi hvi with h | ⟨rfl, rfl⟩
       ·exact t4 i v h hvi hni fun h' => hc (by simp [h'])
       ·exact absurd (by simp) hc
   unfold L.zppq.J4
   refine Ok.iteB (fun hb => .bind' (.eq (ix_nat hn) ?_)) fun hb => j5 _ ?_
   ·rw [e]
    refine j5 _ ?_
    dsimp only at hb ⊢
    rw [← hth]
    constructor
    ·intro h; exact ⟨hb, by simpa using h⟩
    ·intro h; simpa using h.2
   ·dsimp only at hb
    constructor
    ·intro h; cases h
    ·rintro ⟨h, _⟩
     have := hth.2 h
     rw [hb] at this; cases this
  dsimp only
  cases need
  ·refine Ok.iteB (fun h => by cases h) fun _ => j4 2 _ rfl ?_
   rw [closedP hw]; simp
  ·refine Ok.iteB (fun _ => j4 1 _ rfl ?_) fun h => by cases h
   rw [openP hw]; simp
 ·rintro _ ⟨cs, os, most, rfl, t1, t2, t3, t4, t5, t6, t7⟩
  simp only [Sum.elim_inl]
  unfold L.zppq.J1
  refine .bind' (.app (by simp; omega) (.pure ⟨cs, os, most, rfl, t1, t2, fun i v hvi hni hc => ?_, fun i v hvi hni hc => ?_, t5, by rw [List.length_map]; exact t6, t7⟩))
  ·exact t3 i v (by have := (gs hvi).1; simpa using this) hvi hni hc
  ·exact t4 i v (by have := (gs hvi).1; simpa using this) hvi hni hc
def setAll (b : Bool) (is : List Nat) (m : List Bool) : List Bool := is.foldl (fun m i => m.set i b) m
theorem setAll_len (b : Bool) : ∀ (is : List Nat) (m : List Bool), (setAll b is m).length = m.length
 | [], m => rfl
 | i :: is, m => by show (setAll b is (m.set i b)).length = _; rw [setAll_len b is]; simp
theorem setAll_append (b : Bool) (is js : List Nat) (m : List Bool) : setAll b (is ++ js) m = setAll b js (setAll b is m) := by unfold setAll; rw [List.foldl_append]
theorem setAll_at (b : Bool) : ∀ {is : List Nat} {m : List Bool} {i : Nat}, (setAll b is m)[i]? = if i ∈ is ∧ i < m.length then some b else m[i]?
 | [], m, i => by simp [setAll]
 | j :: is, m, i => by
  show (setAll b is (m.set j b))[i]? = _
  rw [setAll_at b (is := is)]
  simp only [List.length_set, List.mem_cons]
  by_cases hi : i < m.length
  ·by_cases h1 : i ∈ is
   ·rw [if_pos ⟨h1, hi⟩, if_pos ⟨.inr h1, hi⟩]
   ·rw [if_neg fun h => h1 h.1]
    by_cases h2 : i = j
    ·subst h2; rw [List.getElem?_set_self hi, if_pos ⟨.inl rfl, hi⟩]
    ·rw [List.getElem?_set_ne (Ne.symm h2), if_neg]
     rintro ⟨h | h, _⟩
     ·exact h2 h
     ·exact h1 h
  ·rw [if_neg fun h => hi h.2, if_neg fun h => hi h.2, List.getElem?_eq_none (by simp; omega), List.getElem?_eq_none (by omega)]
structure Stops (m0 tp : List Bool) (Cm : Nat → Prop) (sp : List Nat) : Prop where
 idx : ∀ i, i ∈ sp → i < m0.length ∧ m0[i]? = some true ∧ ¬ (tp[i]? = some true ∧ Cm i)
 keep : ∀ i : Nat, (setAll false sp m0)[i]? = some true → m0[i]? = some true ∧ tp[i]? = some true ∧ Cm i
 len : sp.length ≤ m0.length
structure Starts (m tp : List Bool) (ss : List Nat) : Prop where
 idx : ∀ i, i ∈ ss → i < tp.length ∧ m[i]? = some false ∧ tp[i]? = some true
 all : ∀ i : Nat, tp[i]? = some true → m[i]? = some false → i ∈ ss
 len : ss.length ≤ tp.length
def ComesAt (n : Network) (c : Plan) (i : Nat) : Prop := ∀ st, n.Stations[i]? = some st → Comes n c.Rates c.Ports st.Node
theorem stops_ok {n : Network} (hn : NetOk n) {to c : Plan} (hc : FlowOk n c) {m0 : List Bool} (hm : m0.length = n.Stations.length) (ht : to.Pumps.length = n.Stations.length) :
  Ok (forJ (L.zzjm.B11 n to c) 0 m0.length ([], m0)) fun st => ∃ sp : List Nat, st = (sp.map sStop, setAll false sp m0) ∧ Stops m0 to.Pumps (ComesAt n c) sp := by
 have h3 := hn.sts1
 refine .forJ (fun k st => ∃ sp : List Nat, st = (sp.map sStop, setAll false sp m0) ∧ (∀ i, i ∈ sp → i < k ∧ i < m0.length ∧ m0[i]? = some true ∧ ¬ (to.Pumps[i]? = some true ∧ ComesAt n c i)) ∧ (∀ i : Nat, i < k → (setAll false sp m0)[i]? = some true → m0[i]? = some true ∧ to.Pumps[i]? = some true ∧ ComesAt n c i) ∧ sp.length ≤ k)
  ⟨[], rfl, by simp, fun i h => absurd h (Nat.not_lt_zero _), by simp⟩ ?_ ?_
 ·rintro k _ hk ⟨sp, rfl, i1, i2, i3⟩
  have hs : n.Stations[k]? = some (n.Stations[k]'(by omega)) := gq _
  have hx : m0[k]? = some (m0[k]'(by omega)) := gq _
  have ht : to.Pumps[k]? = some (to.Pumps[k]'(by omega)) := gq _
  generalize m0[k]'(by omega) = x at hx
  generalize to.Pumps[k]'(by omega) = y at ht
  have hg : (setAll false sp m0)[k]? = some x := by rw [setAll_at, if_neg, hx]; rintro ⟨h, _⟩; exact absurd (i1 k h).1 (Nat.lt_irrefl k)
  have yes : x = true → ¬ (y = true ∧ ComesAt n c k) → Ok (L.zzjm.J13 k (sp.map sStop, setAll false sp m0) (k, x) true) fun st => ∃ sp : List Nat, st = (sp.map sStop, setAll false sp m0) ∧ (∀ i, i ∈ sp → i < k + 1 ∧ i < m0.length ∧ m0[i]? = some true ∧ ¬ (to.Pumps[i]? = some true ∧ ComesAt n c i)) ∧ (∀ i : Nat, i < k + 1 → (setAll false sp m0)[i]? = some true → m0[i]? = some true ∧ to.Pumps[i]? = some true ∧ ComesAt n c i) ∧ sp.length ≤ k + 1 := by
   intro hxt hno
   unfold L.zzjm.J13 L.zzjm.J12
   refine Ok.iteB (fun _ => .bind' (.app (by simp; omega) (.pure ⟨sp ++ [k], ?_, fun i hi => ?_, fun i hi hset => ?_, by simp; omega⟩))) fun h => by cases h
   ·rw [setAll_append]; simp [sStop, setAll]
   ·rcases List.mem_append.1 hi with hi | hi
    ·obtain ⟨a, b⟩ := i1 i hi; exact ⟨by omega, b⟩
    ·have : i = k := by simpa using hi
     subst this
     exact ⟨by omega, hk, by rw [hx, hxt], fun h => hno ⟨by rw [ht] at h; simpa using h.1, h.2⟩⟩
   ·rw [setAll_append] at hset
    rw [show setAll false [k] (setAll false sp m0) = (setAll false sp m0).set k false from rfl] at hset
    by_cases hik : k = i
    ·subst hik; rw [List.getElem?_set_self (by rw [setAll_len]; exact hk)] at hset; cases hset
    ·rw [List.getElem?_set_ne hik] at hset; exact i2 i (by omega) hset
  have no : (x = true → y = true ∧ ComesAt n c k) → Ok (L.zzjm.J13 k (sp.map sStop, setAll false sp m0) (k, x) false) fun st => ∃ sp : List Nat, st = (sp.map sStop, setAll false sp m0) ∧ (∀ i, i ∈ sp → i < k + 1 ∧ i < m0.length ∧ m0[i]? = some true ∧ ¬ (to.Pumps[i]? = some true ∧ ComesAt n c i)) ∧ (∀ i : Nat, i < k + 1 → (setAll false sp m0)[i]? = some true → m0[i]? = some true ∧ to.Pumps[i]? = some true ∧ ComesAt n c i) ∧ sp.length ≤ k + 1 := by
   intro hyes
   unfold L.zzjm.J13 L.zzjm.J12
   refine Ok.iteB (fun h => by cases h) fun _ => .pure ⟨sp, rfl, fun i hi => ?_, fun i hi hset => ?_, by omega⟩
   ·obtain ⟨a, b⟩ := i1 i hi; exact ⟨by omega, b⟩
   ·by_cases hik : i = k
    ·subst hik
     rw [hg] at hset; simp at hset; subst hset
     obtain ⟨a, b⟩ := hyes rfl
     exact ⟨hx, by rw [ht, a], b⟩
    ·exact i2 i (by omega) hset
  unfold L.zzjm.B11
  refine .bind' (.eq (ix_nat hg) (Ok.iteB (fun hb => ?_) fun hb => no fun h => by dsimp only at hb; rw [h] at hb; cases hb))
  dsimp only at hb
  refine .bind' (.eq (ix_nat ht) (Ok.iteN (fun hy => ?_) fun hy => ?_))
  ·dsimp only at hy
   exact yes hb fun h => by rw [hy] at h; exact absurd h.1 (by simp)
  ·dsimp only at hy
   refine .bind (Leaves_ok hn hc hs) fun r hr => ?_
   cases r
   ·refine yes hb fun h => ?_
    have := hr.2 (h.2 _ hs); cases this
   ·refine no fun _ => ⟨hy, fun st hst => ?_⟩
    rw [hs] at hst; simp at hst; subst hst
    exact hr.1 rfl
 ·rintro _ ⟨sp, rfl, i1, i2, i3⟩
  exact ⟨sp, rfl, fun i hi => (i1 i hi).2, fun i h => i2 i (by have := (gs h).1; rw [setAll_len] at this; exact this) h, i3⟩
theorem starts_ok {to : Plan} {l l0 : List Step} {m : List Bool} (hl : l.length ≤ 1000000) (ht : to.Pumps.length ≤ 1000) (hm : m.length = to.Pumps.length) :
  Ok (forS (L.zzjm.B6 (l0, m)) 0 to.Pumps l) fun st => ∃ ss : List Nat, st = l ++ ss.map sStart ∧ Starts m to.Pumps ss := by
 refine .forS (fun k st => ∃ ss : List Nat, st = l ++ ss.map sStart ∧ (∀ i, i ∈ ss → i < k ∧ i < to.Pumps.length ∧ m[i]? = some false ∧ to.Pumps[i]? = some true) ∧ (∀ i : Nat, i < k → to.Pumps[i]? = some true → m[i]? = some false → i ∈ ss) ∧ ss.length ≤ k)
  ⟨[], by simp, by simp, fun i h => absurd h (Nat.not_lt_zero _), by simp⟩ ?_ ?_
 ·rintro k x _ hx ⟨ss, rfl, i1, i2, i3⟩
  have hkl := (gs hx).1
  have hg : m[k]? = some (m[k]'(by omega)) := gq _
  generalize m[k]'(by omega) = y at hg
  have j8 : ∀ z : Bool, (z = true ↔ x = true ∧ y = false) → Ok (L.zzjm.J8 k (l ++ ss.map sStart) z) fun st => ∃ ss : List Nat, st = l ++ ss.map sStart ∧ (∀ i, i ∈ ss → i < k + 1 ∧ i < to.Pumps.length ∧ m[i]? = some false ∧ to.Pumps[i]? = some true) ∧ (∀ i : Nat, i < k + 1 → to.Pumps[i]? = some true → m[i]? = some false → i ∈ ss) ∧ ss.length ≤ k + 1 := by
   intro z hz
   unfold L.zzjm.J8 L.zzjm.J7
   refine Ok.iteB (fun hb => .bind' (.app (by simp; omega) (.pure ⟨ss ++ [k], by simp [sStart], fun i hi => ?_, fun i hi h1 h2 => ?_, by simp; omega⟩))) fun hb => .pure ⟨ss, rfl, fun i hi => ?_, fun i hi h1 h2 => ?_, by omega⟩
   ·rcases List.mem_append.1 hi with hi | hi
    ·obtain ⟨a, b⟩ := i1 i hi; exact ⟨by omega, b⟩
    ·have : i = k := by simpa using hi
     subst this
     obtain ⟨a, b⟩ := hz.1 hb
     exact ⟨by omega, hkl, by rw [hg, b], by rw [hx, a]⟩
   ·by_cases hik : i = k
    ·subst hik; simp
    ·exact List.mem_append_left _ (i2 i (by omega) h1 h2)
   ·obtain ⟨a, b⟩ := i1 i hi; exact ⟨by omega, b⟩
   ·by_cases hik : i = k
    ·subst hik
     rw [hx] at h1; rw [hg] at h2; simp at h1 h2
     have := hz.2 ⟨h1, h2⟩; rw [hb] at this; cases this
    ·exact i2 i (by omega) h1 h2
  unfold L.zzjm.B6
  refine Ok.iteB (fun hb => .bind' (.eq (ix_nat hg) (j8 _ ?_))) fun hb => j8 _ ?_
  ·dsimp only; rw [hb]; simp
  ·rw [hb]; simp
 ·rintro _ ⟨ss, rfl, i1, i2, i3⟩
  exact ⟨ss, rfl, fun i hi => (i1 i hi).2, fun i h1 h2 => i2 i (gs h1).1 h1 h2, i3⟩
def tk (s : Step) : Int := if ((s.Kind == 6) && (decide (s.Value ≥ 1) && decide (s.Value ≤ 100))) = true then s.Value else 0
def tks : List Step → Int
 | [] => 0
 | s :: l => tk s + tks l
theorem tks_append : ∀ l m : List Step, tks (l ++ m) = tks l + tks m
 | [], m => by simp [tks]
 | s :: l, m => by simp only [List.cons_append, tks, tks_append l m]; omega
theorem tk_rng (s : Step) : 0 ≤ tk s ∧ tk s ≤ 100 := by
 unfold tk
 split
 ·rename_i h; simp at h; omega
 ·omega
theorem tks_rng : ∀ l : List Step, 0 ≤ tks l ∧ tks l ≤ 100 * (l.length : Int)
 | [] => by simp [tks]
 | s :: l => by have := tk_rng s; have := tks_rng l; simp only [tks, List.length_cons]; omega
theorem ticks_ok {l : List Step} (hl : l.length ≤ 1000000) : L.zipx l = some (tks l) := by
 have : Ok (L.zipx l) fun r => r = tks l := by
  unfold L.zipx
  refine .bind (.forS (fun k st => st = tks (l.take k)) rfl ?_ fun st h => h) ?_
  ·rintro k s _ hs rfl
   have := (gs hs).1
   have h1 := tks_rng (l.take k)
   rw [List.length_take] at h1
   have e : tks (l.take (k + 1)) = tks (l.take k) + tk s := by rw [List.take_add_one, hs, tks_append]; simp [tks]
   unfold L.zipx.B2 L.zipx.J3
   refine Ok.iteB (fun hb => .pure ?_) fun hb => .pure ?_
   ·have := tk_rng s
    rw [e]
    unfold tk at *
    rw [if_pos hb] at *
    rw [wr_id (by omega)]
   ·rw [e]; unfold tk; rw [hb]; simp
  ·rintro _ rfl
   exact .pure (by rw [List.take_length])
 obtain ⟨r, h, rfl⟩ := this
 exact h
theorem falls_len {u : Path} {sign ramp rest : Int} (hr : 1 ≤ ramp) : ∀ (m : Nat) (b : Int), b.toNat ≤ m → (falls u sign ramp rest b).length ≤ 2 * m
 | 0, b, h => by rw [falls_nil (by omega)]; simp
 | m + 1, b, h => by
  by_cases hb : 0 < b
  ·rw [falls_pos hb (by omega)]
   have := falls_len (u := u) (sign := sign) (rest := rest) hr m (b - ramp) (by omega)
   have := waits_len rest
   simp only [List.length_cons, List.length_append]; omega
  ·rw [falls_nil (by omega)]; simp
def fallsAll (sign ramp rest : Int) (l other : List Path) : List Step := l.flatMap fun u => falls u sign ramp rest (u.Rate - mr other u)
theorem fallsAll_len {n : Network} {p : Plan} {sign ramp rest : Int} (hr : 1 ≤ ramp) {other : List Path} (ho : ∀ y, y ∈ other → 1 ≤ y.Rate) : ∀ {l : List Path}, (∀ x, x ∈ l → PathOk n p x) → (fallsAll sign ramp rest l other).length ≤ 2000 * l.length
 | [], _ => by simp [fallsAll]
 | u :: l, h => by
  have hu := (h u (by simp)).small
  have hm := mr_rng (l := other) (u := u) ho hu.2.1
  have a := falls_len (u := u) (sign := sign) (rest := rest) hr 1000 (u.Rate - mr other u) (by omega)
  have b := fallsAll_len (sign := sign) (rest := rest) hr ho (l := l) fun x hx => h x (by simp [hx])
  unfold fallsAll at b ⊢
  rw [List.flatMap_cons, List.length_append, List.length_cons]; omega
theorem fallsLoop {n m : Network} {p q : Plan} {sign ramp rest : Int} (hs : sign = 1 ∨ sign = -1) (hr : 1 ≤ ramp ∧ ramp ≤ 1000) (ht : 0 ≤ rest ∧ rest ≤ 100) {l other : List Path} (hl : ∀ x, x ∈ l → PathOk n p x) (ho : ∀ x, x ∈ other → PathOk m q x) (hlen : l.length ≤ 14)
  {out : List Step} (hout : out.length ≤ 100000) {f : Nat → List Step → Option (List Step)}
  (hf : ∀ k st, f k st = Option.bind (ix (l.map (mr other)) (k : Int)) fun p449 => Option.bind (ix l (k : Int)) fun p451 => Option.bind (L.zihi p451.2 (wr (p451.2.Rate - p449.2)) sign ramp st rest) fun r453 => some r453) :
  forJ f 0 (l.map (mr other)).length out = some (out ++ fallsAll sign ramp rest l other) := by
 have : Ok (forJ f 0 (l.map (mr other)).length out) fun r => r = out ++ fallsAll sign ramp rest l other := by
  rw [List.length_map]
  refine .forJ (fun k st => st = out ++ fallsAll sign ramp rest (l.take k) other) (by simp [fallsAll]) ?_ fun st h => by rw [h, List.take_length]
  rintro k _ hk rfl
  have hx : l[k]? = some (l[k]'hk) := gq _
  generalize l[k]'hk = x at hx
  have hxs := (hl x (mg hx)).small
  have hm := mr_rng (l := other) (u := x) (fun y hy => (ho y hy).small.2.1) hxs.2.1
  have hg : (l.map (mr other))[k]? = some (mr other x) := by rw [List.getElem?_map, hx]; rfl
  have hle := fallsAll_len (sign := sign) (rest := rest) hr.1 (fun y hy => (ho y hy).small.2.1) (l := l.take k) fun y hy => hl y (List.mem_of_mem_take hy)
  rw [List.length_take] at hle
  rw [hf]
  refine .bind' (.eq (ix_nat hg) (.bind' (.eq (ix_nat hx) ?_)))
  dsimp only
  rw [wr_id (by omega), comp2 (by omega) hs hr ht (by omega) (by simp; omega)]
  refine .bind' (.pure (.pure ?_))
  unfold fallsAll
  rw [List.take_add_one, hx, List.flatMap_append, List.append_assoc]; simp
 obtain ⟨r, h, rfl⟩ := this
 exact h
structure Comp (n : Network) (d : Desk) (to : Plan) (ramp rest : Int) (a b : List Path) (sp cs os : List Nat) (most : Int) (ss : List Nat) : Prop where
 da : L.zxps n d.Plan = some (a, 0)
 db : L.zxps n to = some (b, 0)
 pa : ∃ up, Divided n up d.Plan a
 pb : ∃ up, Divided n up to b
 hsp : Stops d.Plan.Pumps to.Pumps (ComesAt n (planOf n a (a.map (mr b)) (List.replicate n.Stations.length false))) sp
 tn : Turns (d.Valves.map (vmv (tks (sp.map sStop ++ fallsAll (-1) ramp rest a b)))) (needs to) cs os most
 hss : Starts (setAll false sp d.Plan.Pumps) to.Pumps ss
def out27 (ramp rest : Int) (a b : List Path) (sp cs os : List Nat) (most : Int) (ss : List Nat) : List Step :=
 (((sp.map sStop ++ fallsAll (-1) ramp rest a b) ++ (cs.map sClose ++ os.map sOpen)) ++ waits most) ++ fallsAll 1 ramp rest b a ++ ss.map sStart
theorem compile_ok {n : Network} (hn : NetOk n) {d : Desk} (hd : DeskOk n d) {to : Plan} (ht : PlanOk n to) (hf : FedP n to) {ramp rest : Int} (hr : 1 ≤ ramp ∧ ramp ≤ 1000) (hs : 0 ≤ rest ∧ rest ≤ 100) :
  Ok (L.zzjm n d to ramp rest) fun r => ∃ a b sp cs os most ss, Comp n d to ramp rest a b sp cs os most ss ∧ r = if (out27 ramp rest a b sp cs os most ss).length > 400 then ([], 4) else (out27 ramp rest a b sp cs os most ss, 0) := by
 have h1 := hn.segs1; have h2 := hn.ports1; have h3 := hn.sts1; have hvl := hd.vs.1; have hml := hd.plan.ml; have htm := ht.ml; have htr := ht.rl; have htp := ht.pl
 obtain ⟨⟨a, _⟩, ea, rfl, upa, ha⟩ := divide_ok hn hd.plan
 obtain ⟨⟨b, _⟩, eb, rfl, upb, hb⟩ := divide_ok hn ht
 dsimp only at ha hb
 have hpart : Part a (a.map (mr b)) := .common ha.paths hb.paths
 have hcm := (planOf_ok hd.plan ha hpart (pumps := List.replicate n.Stations.length false) (by simp)).flow
 have hac := ha.count; have hbc := hb.count
 unfold L.zzjm L.zjgg
 rw [checkP hn hd, flowCheckF hn ht.flow, ea, eb]
 refine .bind' (.bind' (.pure (Ok.iteU (fun h => absurd rfl h) fun _ => .bind' (.pure (Ok.iteU (fun h => absurd rfl h) fun _ => Ok.iteB (fun h => ?_) fun _ => .pure (Ok.iteU (fun h => absurd rfl h) fun _ => ?_))))))
 ·simp at h; omega
 refine .bind' (.pure (Ok.iteU (fun h => absurd rfl h) fun _ => .bind' (.pure (Ok.iteU (fun h => absurd rfl h) fun _ => ?_))))
 refine .bind' (.forL (fun _ _ => True) (fun _ => False) trivial ?_ ?_ fun _ h => h.elim)
 ·intro k x _ hx _
  have hkl := (gs hx).1
  have hst : n.Stations[k]? = some (n.Stations[k]'(by omega)) := gq _
  unfold L.zzjm.B14 L.zzjm.J15
  refine Ok.iteB (fun hb => .bind (Leaves_ok hn ht.flow hst) fun r hr => ?_) fun _ => Ok.iteB (fun h => by cases h) fun _ => .pure trivial
  have := hr.2 (hf k _ hst (by rw [hx, hb]))
  subst this
  exact Ok.iteB (fun h => by cases h) fun _ => .pure trivial
 intro _ _
 simp only [Sum.elim_inl]
 unfold L.zzjm.J1
 rw [needP hn ht.flow, commonP hn ha hb.paths hb.apt]
 have hclone : L.zlhc d.Plan.Pumps = some d.Plan.Pumps := by unfold L.zlhc; rw [app?_eq (by simp; omega)]; rfl
 rw [hclone]
 refine .bind' (.pure (Ok.iteU (fun h => absurd rfl h) fun _ => .bind' (.pure (.bind' (.pure (.bind (stops_ok hn hcm hml htm) ?_))))))
 rintro _ ⟨sp, rfl, hsp⟩
 have hspl := hsp.len
 have fa := fallsAll_len (sign := -1) (rest := rest) hr.1 (fun y hy => (hb.paths y hy).small.2.1) ha.paths
 have fb := fallsAll_len (sign := 1) (rest := rest) hr.1 (fun y hy => (ha.paths y hy).small.2.1) hb.paths
 unfold L.zzjm.J2
 dsimp only
 rw [within_ok hb.apt (by omega)]
 refine .bind' (.pure ?_)
 rw [fallsLoop (f := L.zzjm.B10 ramp rest (a, 0) (a.map (mr b))) (.inr rfl) hr hs ha.paths hb.paths hac (by simp; omega) fun k st => rfl]
 refine .bind' (.pure ?_)
 unfold L.zzjm.J3
 have hol : (sp.map sStop ++ fallsAll (-1) ramp rest a b).length ≤ 50000 := by simp; omega
 have htk := tks_rng (sp.map sStop ++ fallsAll (-1) ramp rest a b)
 rw [ticks_ok (by omega), numbersP (by simp; omega) (by simp; omega)]
 refine .bind' (.pure (.bind' (.pure (.bind (turns_ok hd.vs (by omega) htk.1 (by simp; omega)) ?_))))
 rintro _ ⟨cs, os, most, rfl, htn⟩
 have htl := htn.len; have htr := htn.rng
 rw [List.length_map] at htl
 refine Ok.iteN (fun h => by cases h) fun _ => .bind' (.app (by simp at hol ⊢; omega) ?_)
 dsimp only
 rw [comp1 (by omega) (by omega) (by simp at hol ⊢; omega), within_ok ha.apt (by omega)]
 refine .bind' (.pure (.bind' (.pure ?_)))
 have hw := waits_len most
 rw [fallsLoop (f := L.zzjm.B9 ramp rest (b, 0) (b.map (mr a))) (.inl rfl) hr hs hb.paths ha.paths hbc (by simp at hol ⊢; omega) fun k st => rfl]
 refine .bind' (.pure ?_)
 unfold L.zzjm.J4
 refine .bind (starts_ok (by simp at hol ⊢; omega) (by omega) (by rw [setAll_len]; omega)) ?_
 rintro _ ⟨ss, rfl, hss⟩
 unfold L.zzjm.J5
 have hc : Comp n d to ramp rest a b sp cs os most ss := ⟨ea, eb, ⟨upa, ha⟩, ⟨upb, hb⟩, hsp, htn, hss⟩
 refine Ok.iteD (fun h => .pure ⟨a, b, sp, cs, os, most, ss, hc, ?_⟩) fun h => .pure ⟨a, b, sp, cs, os, most, ss, hc, ?_⟩
 ·rw [if_pos]; unfold out27; omega
 ·rw [if_neg]
  ·rfl
  ·unfold out27; omega
def Runs (n : Network) (Q : Desk → Prop) : Desk → List Step → Desk → Prop
 | d, [], e => d = e
 | d, s :: l, e => ∃ f, L.zvix n d s = some (f, 0) ∧ Q f ∧ Runs n Q f l e
theorem Runs.append {n : Network} {Q : Desk → Prop} : ∀ {l m : List Step} {d e f : Desk}, Runs n Q d l e → Runs n Q e m f → Runs n Q d (l ++ m) f
 | [], m, d, e, f, h, k => by cases h; exact k
 | s :: l, m, d, e, f, ⟨g, h1, h2, h3⟩, k => ⟨g, h1, h2, Runs.append h3 k⟩
theorem Runs.one {n : Network} {Q : Desk → Prop} {d e : Desk} {s : Step} (h : L.zvix n d s = some (e, 0)) (q : Q e) : Runs n Q d [s] e := ⟨e, h, q, rfl⟩
section
variable {n : Network} (hn : NetOk n) {Q : Desk → Prop} {up : Bool} {p : Plan} (hp : PlanOk n p) {l : List Path} (hd : Divided n up p l) {pumps : List Bool} (hm : pumps.length = n.Stations.length) {cm : List Int}
 (hfed : ∀ rs, Part l rs → Les cm rs → FedP n (planOf n l rs pumps)) (hQ : ∀ vs rs, Part l rs → Les cm rs → Q ⟨vs, planOf n l rs pumps⟩) {sign ramp rest : Int} (hsg : sign = 1 ∨ sign = -1) (hr : 1 ≤ ramp ∧ ramp ≤ 1000) (ht : 0 ≤ rest ∧ rest ≤ 100)
include hn hp hd hm hfed hQ hsg hr ht
end
theorem FedP.of {n : Network} {p : Plan} (h : ∀ i : Nat, p.Pumps[i]? = some true → ComesAt n p i) : FedP n p := fun i st hs hp => h i hp st hs
theorem FedP.comes {n : Network} {p : Plan} (h : FedP n p) {i : Nat} (hi : p.Pumps[i]? = some true) : ComesAt n p i := fun st hs => h i st hs hi
def Qst (n : Network) (a b : List Path) (f : Desk) : Prop :=
 (∃ rs, Part a rs ∧ Les (a.map (mr b)) rs ∧ f.Plan.Rates = ratesOf n a rs ∧ f.Plan.Ports = portsOf n a rs) ∨ ∃ rs, Part b rs ∧ Les (b.map (mr a)) rs ∧ f.Plan.Rates = ratesOf n b rs ∧ f.Plan.Ports = portsOf n b rs
theorem Les.refl (l : List Int) : Les l l := fun i r s h1 h2 => by rw [h1] at h2; simp at h2; omega
theorem awake27 : L.zgom = some true := by kernel_rfl
theorem wake27 : Ok (L.zgom.bind fun r => some r) fun r => r = true := by rw [awake27]; exact .pure rfl
theorem fed_ok {n : Network} (hn : NetOk n) {p : Plan} (hp : PlanOk n p) : Ok (L.zbqx n p) fun q => PlanOk n q ∧ FedP n q := by
 have h1 := hn.segs1; have h2 := hn.ports1; have h3 := hn.sts1; have h4 := hp.rl; have h5 := hp.pl; have h6 := hp.ml
 unfold L.zbqx
 rw [copyPlan25 (by omega) (by omega) (by omega)]
 refine .bind' (.pure (.bind (Q := fun m : List Bool => m.length = n.Stations.length ∧ ∀ (i : Nat) (st : Station), n.Stations[i]? = some st → m[i]? = some true → Comes n p.Rates p.Ports st.Node) ?_ ?_))
 ·refine .loop (S := List Bool × Int) (fun st => ∃ k : Nat, st.2 = (k : Int) ∧ k ≤ n.Stations.length ∧ st.1.length = n.Stations.length ∧ ∀ (i : Nat) (s : Station), i < k → n.Stations[i]? = some s → st.1[i]? = some true → Comes n p.Rates p.Ports s.Node) (fun st => n.Stations.length - st.2.toNat)
   ⟨0, rfl, by omega, h6, fun i s h => absurd h (Nat.not_lt_zero _)⟩ (by dsimp only; omega) ?_
  rintro ⟨m, _⟩ ⟨k, rfl, hk, hml, hm⟩
  dsimp only at hml hm
  unfold L.zbqx.B2
  refine Ok.iteB (fun hb => ?_) fun hb => .pure ⟨hml, fun i s hs hi => hm i s ?_ hs hi⟩
  ·have hlt : k < n.Stations.length := by simp at hb; omega
   have hs : n.Stations[k]? = some n.Stations[k] := gq hlt
   have hx : m[k]? = some (m[k]'(by omega)) := gq _
   generalize m[k]'(by omega) = x at hx
   have j3 : ∀ z : Bool, (z = true → Comes n p.Rates p.Ports n.Stations[k].Node) → Ok (L.zbqx.J3 (m, (k : Int)) (m.set k z)) (Sum.elim (fun st : List Bool × Int => (∃ k : Nat, st.2 = (k : Int) ∧ k ≤ n.Stations.length ∧ st.1.length = n.Stations.length ∧ ∀ (i : Nat) (s : Station), i < k → n.Stations[i]? = some s → st.1[i]? = some true → Comes n p.Rates p.Ports s.Node) ∧ n.Stations.length - st.2.toNat < n.Stations.length - ((k : Nat) : Int).toNat)
     fun m : List Bool => m.length = n.Stations.length ∧ ∀ (i : Nat) (st : Station), n.Stations[i]? = some st → m[i]? = some true → Comes n p.Rates p.Ports st.Node) := by
    intro z hz
    unfold L.zbqx.J3
    refine .pure ⟨⟨k + 1, by dsimp only; rw [wr_id (by omega)]; omega, by omega, by simp [hml], fun i s hi hs' h => ?_⟩, by dsimp only; rw [wr_id (by omega)]; omega⟩
    dsimp only at h
    by_cases hik : k = i
    ·subst hik
     rw [List.getElem?_set_self (by omega)] at h
     rw [hs] at hs'; simp at hs' h; subst hs'
     exact hz h
    ·rw [List.getElem?_set_ne hik] at h
     exact hm i s (by omega) hs' h
   refine .bind' (.eq (ix_nat hs) (.bind (through16 hn hp.flow (hn.sts k _ hs).node) fun r hr => .bind' (.eq (ix_nat hx) ?_)))
   refine Ok.iteB (fun _ => Ok.iteE (fun _ => j3 _ fun hz => hr.2.2.1 ?_) fun _ => j3 _ fun h => by cases h) fun _ => j3 _ fun h => by cases h
   simp at hz; omega
  ·have hil := (gs hs).1
   simp at hb; omega
 ·rintro m ⟨hml, hm⟩
  unfold L.zbqx.J1
  exact .pure ⟨⟨h4, h5, hml, hp.rng, hp.prt, hp.bal, hp.dir⟩, hm⟩
theorem plan27 {n : Network} (hn : NetOk n) {s : Src} (hs : SrcOk s) : Ok (L.zhma s n) fun r => PlanOk n r.1 ∧ FedP n r.1 ∧ SrcOk r.2 := by
 unfold L.zhma
 refine .bind (plan_ok hn hs) ?_
 rintro ⟨p, s'⟩ ⟨hp, hs'⟩
 exact .bind (fed_ok hn hp) fun q hq => .pure ⟨hq.1, hq.2, hs'⟩
def unstick (v : Valve) : Valve := ⟨v.Travel, v.Open, v.Want, false⟩
theorem valve27 {s : Src} (hs : SrcOk s) : Ok (L.ztts s) fun r => VOk (unstick r.1) ∧ SrcOk r.2 := by
 unfold L.ztts
 refine .bind (pick_ok hs (by simp) (by simp)) ?_
 rintro ⟨t, s1⟩ ⟨h1, ht⟩
 have ht' : 1 ≤ t ∧ t ≤ 60 := by simp at ht; omega
 refine .bind (n_ok h1 (by omega) (by omega)) ?_
 rintro ⟨w, s2⟩ ⟨h2, _⟩
 refine .bind (n_ok h2 (by omega) (by omega)) ?_
 rintro ⟨k, s3⟩ ⟨h3, _⟩
 dsimp only
 rw [wr_id (by omega)]
 refine .bind (n_ok h3 (by omega) (by omega)) ?_
 rintro ⟨x, s4⟩ ⟨h4, hx0, hx1⟩
 dsimp only at hx0 hx1
 refine .bind (pick_ok h4 (by simp) (by simp)) ?_
 rintro ⟨o, s5⟩ ⟨h5, ho⟩
 refine .pure ⟨⟨ht', ?_, rfl⟩, h5⟩
 show 0 ≤ o ∧ o ≤ t
 simp at ho; omega
theorem desk27 {n : Network} (hn : NetOk n) {s : Src} (hs : SrcOk s) {p : Plan} (hp : PlanOk n p) : Ok (L.zrqy s n p) fun r => (PlanOk n r.1.Plan ∧ FedP n r.1.Plan ∧ r.1.Valves.length = n.Segments.length + n.Ports.length ∧ (∀ v, v ∈ r.1.Valves → VOk (unstick v)) ∧ VReady r.1.Valves (needs r.1.Plan)) ∧ SrcOk r.2 := by
 have h1 := hn.segs1; have h2 := hn.ports1
 unfold L.zrqy
 refine .bind (fed_ok hn hp) fun q hq => ?_
 obtain ⟨hq, hf⟩ := hq
 have h4 := hq.rl; have h5 := hq.pl
 have hnl := needs_len h4 h5
 rw [needs24 (by omega) (by omega)]
 refine .bind' (.pure ?_)
 rw [all24 (by simp; omega) (by simp; omega)]
 refine .bind' (.pure (.bind (Q := fun d : List Int × Int × List Valve => SrcOk ⟨d.1, d.2.1⟩ ∧ d.2.2.length = (needs q).length ∧ (∀ v, v ∈ d.2.2 → VOk (unstick v)) ∧ VReady d.2.2 (needs q)) ?_ ?_))
 ·refine .loop (S := List Int × Int × List Valve × Int) (fun st => ∃ k : Nat, st.2.2.2 = (k : Int) ∧ k ≤ (needs q).length ∧ SrcOk ⟨st.1, st.2.1⟩ ∧ st.2.2.1.length = k ∧ (∀ v, v ∈ st.2.2.1 → VOk (unstick v)) ∧ ∀ i : Nat, i < k → (needs q)[i]? = some true → ∃ v, st.2.2.1[i]? = some v ∧ v.Open = v.Travel ∧ v.Want = true) (fun st => (needs q).length - st.2.2.2.toNat)
   ⟨0, rfl, by omega, hs, rfl, by simp, fun i h => absurd h (Nat.not_lt_zero _)⟩ (by dsimp only; omega) ?_
  rintro ⟨L_, At, vs, _⟩ ⟨k, rfl, hk, hs, hl, hv, hr⟩
  dsimp only at hs hl hv hr
  unfold L.zrqy.B2
  refine Ok.iteD (fun hlt => ?_) fun hge => .pure ⟨hs, ?_, hv, fun i hi => hr i ?_ hi⟩
  ·have hlt' : (k : Int) < ((needs q).length : Int) := hlt
   refine .bind (valve27 hs) ?_
   rintro ⟨v, s1⟩ ⟨hvo, hs1⟩
   have hx : (needs q)[k]? = some ((needs q)[k]'(by omega)) := gq _
   generalize (needs q)[k]'(by omega) = x at hx
   have j3 : ∀ (o : Int) (w : Bool), 0 ≤ o → o ≤ v.Travel → (x = true → o = v.Travel ∧ w = true) → Ok (L.zrqy.J3 (L_, At, vs, (k : Int)) (v, s1) (o, w)) (Sum.elim (fun st : List Int × Int × List Valve × Int => (∃ k : Nat, st.2.2.2 = (k : Int) ∧ k ≤ (needs q).length ∧ SrcOk ⟨st.1, st.2.1⟩ ∧ st.2.2.1.length = k ∧ (∀ v, v ∈ st.2.2.1 → VOk (unstick v)) ∧ ∀ i : Nat, i < k → (needs q)[i]? = some true → ∃ v, st.2.2.1[i]? = some v ∧ v.Open = v.Travel ∧ v.Want = true) ∧ (needs q).length - st.2.2.2.toNat < (needs q).length - ((k : Nat) : Int).toNat)
     fun d : List Int × Int × List Valve => SrcOk ⟨d.1, d.2.1⟩ ∧ d.2.2.length = (needs q).length ∧ (∀ v, v ∈ d.2.2 → VOk (unstick v)) ∧ VReady d.2.2 (needs q)) := by
    intro o w ho0 ho1 hxo
    unfold L.zrqy.J3
    refine .bind' (.app (by simp; omega) (.pure ⟨⟨k + 1, by dsimp only; rw [wr_id (by omega)]; omega, by omega, hs1, by simp [hl], fun y hy => ?_, fun i hi hn => ?_⟩, by dsimp only; rw [wr_id (by omega)]; omega⟩))
    ·rcases List.mem_append.1 hy with hy | hy
     ·exact hv y hy
     ·have : y = ⟨v.Travel, o, w, v.Stuck⟩ := by simpa using hy
      subst this
      exact ⟨hvo.travel, ⟨ho0, ho1⟩, rfl⟩
    ·dsimp only
     by_cases hik : i = k
     ·subst hik
      rw [hx] at hn; simp at hn
      obtain ⟨e1, e2⟩ := hxo hn
      exact ⟨⟨v.Travel, o, w, v.Stuck⟩, by rw [List.getElem?_append_right (by omega), hl]; simp, e1, e2⟩
     ·obtain ⟨y, a, b⟩ := hr i (by omega) hn
      exact ⟨y, by rw [List.getElem?_append_left (by omega)]; exact a, b⟩
   have ho := hvo.opn
   have htv := hvo.travel
   dsimp only [unstick] at ho htv
   refine .bind' (.eq (ix_nat hx) (Ok.iteB (fun _ => j3 _ _ (by dsimp only; omega) (by dsimp only; omega) fun _ => ⟨rfl, rfl⟩) fun hb => j3 _ _ ho.1 ho.2 fun h => ?_))
   dsimp only at hb; rw [h] at hb; cases hb
  ·have hge' : ¬ (k : Int) < ((needs q).length : Int) := hge
   dsimp only; omega
  ·have hge' : ¬ (k : Int) < ((needs q).length : Int) := hge
   have := (gs hi).1; omega
 ·rintro ⟨L_, At, vs⟩ ⟨hs, hl, hv, hr⟩
  exact .pure ⟨⟨hq, hf, by dsimp only at hl ⊢; omega, hv, hr⟩, hs⟩
theorem free27 {n : Network} (hn : NetOk n) {d : Desk} (h : PlanOk n d.Plan ∧ FedP n d.Plan ∧ d.Valves.length = n.Segments.length + n.Ports.length ∧ (∀ v, v ∈ d.Valves → VOk (unstick v)) ∧ VReady d.Valves (needs d.Plan)) : Ok (L.zqyk d) fun e => DeskOk n e := by
 obtain ⟨hp, hf, hl, hv, hr⟩ := h
 have h1 := hn.segs1; have h2 := hn.ports1; have h3 := hn.sts1; have h4 := hp.rl; have h5 := hp.pl; have h6 := hp.ml
 unfold L.zqyk L.zryh
 rw [app?_eq (by simp; omega), copyPlan25 (by omega) (by omega) (by omega)]
 refine .bind' (.bind' (.pure (.bind' (.pure (.pure ?_)))))
 refine .bind (Q := fun vs => vs = d.Valves.map unstick) ?_ ?_
 ·refine .loop (S := List Valve × Int) (fun st => ∃ k : Nat, st = ((d.Valves.take k).map unstick ++ d.Valves.drop k, (k : Int)) ∧ k ≤ d.Valves.length) (fun st => d.Valves.length - st.2.toNat) ⟨0, rfl, by omega⟩ (by dsimp only; omega) ?_
  rintro _ ⟨k, rfl, hk⟩
  have hlen : ((d.Valves.take k).map unstick ++ d.Valves.drop k).length = d.Valves.length := by simp; omega
  unfold L.zqyk.B2
  refine Ok.iteD (fun hlt => ?_) fun hge => .pure ?_
  ·dsimp only at hlt
   rw [hlen] at hlt
   have hx : d.Valves[k]? = some (d.Valves[k]'(by omega)) := gq _
   generalize d.Valves[k]'(by omega) = v at hx
   have hg : ((d.Valves.take k).map unstick ++ d.Valves.drop k)[k]? = some v := by
    rw [List.getElem?_append_right (by simp; omega)]; simp [Nat.min_eq_left hk, hx]
   refine .bind' (.eq (ix_nat hg) (.pure ⟨⟨k + 1, ?_, by omega⟩, ?_⟩))
   ·dsimp only
    rw [wr_id (by omega)]
    congr 1
    refine List.ext_getElem? fun j => ?_
    rw [get_set]
    split
    ·rename_i hj
     rw [← hj.1, List.getElem?_append_left (by simp; omega), List.getElem?_map, List.getElem?_take, if_pos (by omega), hx]; rfl
    ·rename_i hj
     rw [hlen] at hj
     by_cases hjk : j < k
     ·rw [List.getElem?_append_left (by simp; omega), List.getElem?_append_left (by simp; omega), List.getElem?_map, List.getElem?_map, List.getElem?_take, List.getElem?_take, if_pos hjk, if_pos (by omega)]
     ·have : k < j := by omega
      rw [List.getElem?_append_right (by simp; omega), List.getElem?_append_right (by simp; omega)]
      simp only [List.length_map, List.length_take, List.getElem?_drop, Nat.min_eq_left hk, Nat.min_eq_left (show k + 1 ≤ d.Valves.length by omega)]
      congr 1; omega
   ·dsimp only; rw [wr_id (by omega)]; omega
  ·dsimp only at hge
   rw [hlen] at hge
   show (d.Valves.take k).map unstick ++ d.Valves.drop k = _
   rw [List.take_of_length_le (by omega), List.drop_eq_nil_of_le (by omega), List.append_nil]
 ·rintro _ rfl
  refine .pure ⟨⟨by dsimp only; rw [List.length_map]; exact hl, fun v hm => ?_⟩, hp, fun k hk => ?_, hf⟩
  ·obtain ⟨u, hu, rfl⟩ := List.mem_map.1 hm
   exact hv u hu
  ·obtain ⟨v, a, b, c⟩ := hr k hk
   exact ⟨unstick v, by dsimp only; rw [List.getElem?_map, a]; rfl, b, c⟩
def L.zoig.J1 (l_2 : List Step) (j42 : (List Valve) × (List Int) × (List Int) × (List Bool)) : Option (Desk × Int × Int) := some ((⟨j42.1, (⟨j42.2.1, j42.2.2.1, j42.2.2.2⟩ : Plan)⟩ : Desk), (l_2.length : Int), 0)
def L.zoig.J3 (st67 : (List Valve) × (List Int) × (List Int) × (List Bool) × Int) (j90 : (List Valve) × (List Int) × (List Int) × (List Bool) × Int) : Option (((List Valve) × (List Int) × (List Int) × (List Bool) × Int) ⊕ ((Desk × Int × Int) ⊕ ((List Valve) × (List Int) × (List Int) × (List Bool)))) := if (j90.2.2.2.2 != 0) = true then some ((.inr (.inl (((⟨st67.1, (⟨st67.2.1, st67.2.2.1, st67.2.2.2.1⟩ : Plan)⟩ : Desk), st67.2.2.2.2, j90.2.2.2.2))))) else some (.inl (j90.1, j90.2.1, j90.2.2.1, j90.2.2.2.1, wr (st67.2.2.2.2 + 1)))
def L.zoig.B2 (n_0 : Network) (l_2 : List Step) (st67 : (List Valve) × (List Int) × (List Int) × (List Bool) × Int) : Option (((List Valve) × (List Int) × (List Int) × (List Bool) × Int) ⊕ ((Desk × Int × Int) ⊕ ((List Valve) × (List Int) × (List Int) × (List Bool)))) := if decide (st67.2.2.2.2 < (l_2.length : Int)) = true then Option.bind (ix l_2 st67.2.2.2.2) fun p93 => Option.bind (L.zvix n_0 (⟨st67.1, (⟨st67.2.1, st67.2.2.1, st67.2.2.2.1⟩ : Plan)⟩ : Desk) p93.2) fun r95 => L.zoig.J3 st67 (r95.1.Valves, r95.1.Plan.Rates, r95.1.Plan.Ports, r95.1.Plan.Pumps, r95.2) else some ((.inr (.inr ((st67.1, st67.2.1, st67.2.2.1, st67.2.2.2.1)))))
def L.zoig (n_0 : Network) (d_1 : Desk) (l_2 : List Step) : Option (Desk × Int × Int) := if decide ((l_2.length : Int) > 400) = true then some (d_1, 0, 4) else Option.bind (loopN (L.zoig.B2 n_0 l_2) lots (d_1.Valves, d_1.Plan.Rates, d_1.Plan.Ports, d_1.Plan.Pumps, 0)) fun o78 => Sum.elim (fun d98 => some d98) (fun d99 => L.zoig.J1 l_2 d99) o78
def L.zgbr.J4 (j110 : Unit) : Option Bool := Option.bind (L.zgom) fun r111 => some r111
def L.zgbr.J6 (st131 : Int) (j149 : Bool) : Option (Int ⊕ (Bool ⊕ Unit)) := if j149 = true then some ((.inr (.inl (false)))) else some (.inl (wr (st131 + 1)))
def L.zgbr.B5 (r32 : Desk × Int × Int) (st131 : Int) : Option (Int ⊕ (Bool ⊕ Unit)) := if decide (st131 < (r32.1.Valves.length : Int)) = true then Option.bind (ix r32.1.Valves st131) fun p151 => if (p151.2.Open != 0) = true then L.zgbr.J6 st131 true else L.zgbr.J6 st131 p151.2.Want else some ((.inr (.inr (()))))
def L.zgbr.J3 (r32 : Desk × Int × Int) (j83 : Unit) : Option Bool := Option.bind (loopN (L.zgbr.B5 r32) lots 0) fun o139 => Sum.elim (fun d154 => some d154) (fun d155 => L.zgbr.J4 d155) o139
def L.zgbr.B7 (r32 : Desk × Int × Int) (st170 : Int) : Option (Int ⊕ (Bool ⊕ Unit)) := if decide (st170 < (r32.1.Plan.Pumps.length : Int)) = true then Option.bind (ix r32.1.Plan.Pumps st170) fun p183 => if p183.2 = true then some ((.inr (.inl (false)))) else some (.inl (wr (st170 + 1))) else some ((.inr (.inr (()))))
def L.zgbr.J2 (r32 : Desk × Int × Int) (j62 : Unit) : Option Bool := Option.bind (loopN (L.zgbr.B7 r32) lots 0) fun o176 => Sum.elim (fun d186 => some d186) (fun d187 => L.zgbr.J3 r32 d187) o176
def L.zgbr.B8 (r32 : Desk × Int × Int) (st202 : Int) : Option (Int ⊕ (Bool ⊕ Unit)) := if decide (st202 < (r32.1.Plan.Ports.length : Int)) = true then Option.bind (ix r32.1.Plan.Ports st202) fun p215 => if (p215.2 != 0) = true then some ((.inr (.inl (false)))) else some (.inl (wr (st202 + 1))) else some ((.inr (.inr (()))))
def L.zgbr.J1 (ramp_1 : Int) (r11 : Network × KS) (j21 : (List Valve) × (List Int) × (List Int) × (List Bool)) : Option Bool := Option.bind (L.zfzy r11.1 (⟨j21.1, (⟨j21.2.1, j21.2.2.1, j21.2.2.2⟩ : Plan)⟩ : Desk) (wr (20 + (wr (ramp_1)))) 0) fun r24 => if (r24.2 == 4) = true then Option.bind (L.zgom) fun r29 => some r29 else Option.bind (L.zoig r11.1 (⟨j21.1, (⟨j21.2.1, j21.2.2.1, j21.2.2.2⟩ : Plan)⟩ : Desk) r24.1) fun r32 => if ((r24.2 != 0) || ((r32.2.2 != 0) || (r32.2.1 != (r24.1.length : Int)))) = true then some false else Option.bind (loopN (L.zgbr.B8 r32) lots 0) fun o208 => Sum.elim (fun d218 => some d218) (fun d219 => L.zgbr.J2 r32 d219) o208
def L.zgbr (l_0 : List Int) (ramp_1 : Int) : Option Bool := if (!(L.zqaf l_0)) = true then Option.bind (L.zgom) fun r4 => some r4 else Option.bind (L.ziti l_0) fun r7 => Option.bind (L.zeju r7) fun r11 => Option.bind (L.zhma r11.2 r11.1) fun r220 => Option.bind (L.zrqy r220.2 r11.1 r220.1) fun r222 => Option.bind (L.zqyk r222.1) fun r224 => L.zgbr.J1 ramp_1 r11 (r224.Valves, r224.Plan.Rates, r224.Plan.Ports, r224.Plan.Pumps)
def L.zmdc.J1 (j30 : Unit) : Option Bool := some true
def L.zmdc.B2 (a_0 : List Int) (b_1 : List Int) (st49 : Int) : Option (Int ⊕ (Bool ⊕ Unit)) := if decide (st49 < (a_0.length : Int)) = true then Option.bind (ix a_0 st49) fun p64 => Option.bind (ix b_1 st49) fun p66 => if (p64.2 != p66.2) = true then some ((.inr (.inl (false)))) else some (.inl (wr (st49 + 1))) else some ((.inr (.inr (()))))
def L.zmdc (a_0 : List Int) (b_1 : List Int) : Option Bool := if ((a_0.length : Int) != (b_1.length : Int)) = true then some false else Option.bind (loopN (L.zmdc.B2 a_0 b_1) lots 0) fun o57 => Sum.elim (fun d69 => some d69) (fun d70 => L.zmdc.J1 d70) o57
def L.zygm.J1 (j30 : Unit) : Option Bool := some true
def L.zygm.B2 (a_0 : List Bool) (b_1 : List Bool) (st49 : Int) : Option (Int ⊕ (Bool ⊕ Unit)) := if decide (st49 < (a_0.length : Int)) = true then Option.bind (ix a_0 st49) fun p64 => Option.bind (ix b_1 st49) fun p66 => if (p64.2 != p66.2) = true then some ((.inr (.inl (false)))) else some (.inl (wr (st49 + 1))) else some ((.inr (.inr (()))))
def L.zygm (a_0 : List Bool) (b_1 : List Bool) : Option Bool := if ((a_0.length : Int) != (b_1.length : Int)) = true then some false else Option.bind (loopN (L.zygm.B2 a_0 b_1) lots 0) fun o57 => Sum.elim (fun d69 => some d69) (fun d70 => L.zygm.J1 d70) o57
def L.zwbu.J1 (j12 : Bool) : Option Bool := some j12
def L.zwbu (a_0 : Plan) (b_1 : Plan) : Option Bool := Option.bind (L.zmdc a_0.Rates b_1.Rates) fun r13 => if r13 = true then Option.bind (L.zmdc a_0.Ports b_1.Ports) fun r16 => if r16 = true then Option.bind (L.zygm a_0.Pumps b_1.Pumps) fun r19 => L.zwbu.J1 r19 else L.zwbu.J1 false else L.zwbu.J1 false
def L.zdgb.J2 (j61 : Bool) : Option Bool := some j61
def L.zdgb.J1 (r11 : Network × KS) (j21 : (List Int) × Int × (List Valve) × (List Int) × (List Int) × (List Bool)) : Option Bool := Option.bind (L.zhma (⟨j21.1, j21.2.1⟩ : KS) r11.1) fun r24 => Option.bind (L.zzjm r11.1 (⟨j21.2.2.1, (⟨j21.2.2.2.1, j21.2.2.2.2.1, j21.2.2.2.2.2⟩ : Plan)⟩ : Desk) r24.1 300 0) fun r28 => Option.bind (L.zoig r11.1 (⟨j21.2.2.1, (⟨j21.2.2.2.1, j21.2.2.2.2.1, j21.2.2.2.2.2⟩ : Plan)⟩ : Desk) r28.1) fun r32 => Option.bind (L.zzjm r11.1 r32.1 r24.1 300 0) fun r36 => Option.bind (L.zzjm r11.1 r32.1 (⟨j21.2.2.2.1, j21.2.2.2.2.1, j21.2.2.2.2.2⟩ : Plan) 300 0) fun r40 => Option.bind (L.zoig r11.1 r32.1 r40.1) fun r44 => if (r28.2 == 0) = true then if (r32.2.2 == 0) = true then if (r36.2 == 0) = true then if (r40.2 == 0) = true then if (r44.2.2 == 0) = true then if ((r36.1.length : Int) == 0) = true then Option.bind (L.zwbu r32.1.Plan r24.1) fun r68 => if r68 = true then Option.bind (L.zwbu r44.1.Plan (⟨j21.2.2.2.1, j21.2.2.2.2.1, j21.2.2.2.2.2⟩ : Plan)) fun r71 => if r71 = true then Option.bind (L.zgom) fun r74 => L.zdgb.J2 r74 else L.zdgb.J2 false else L.zdgb.J2 false else L.zdgb.J2 false else L.zdgb.J2 false else L.zdgb.J2 false else L.zdgb.J2 false else L.zdgb.J2 false else L.zdgb.J2 false
def L.zdgb (l_0 : List Int) : Option Bool := if (!(L.zqaf l_0)) = true then Option.bind (L.zgom) fun r4 => some r4 else Option.bind (L.ziti l_0) fun r7 => Option.bind (L.zeju r7) fun r11 => Option.bind (L.zhma r11.2 r11.1) fun r76 => Option.bind (L.zrqy r76.2 r11.1 r76.1) fun r78 => Option.bind (L.zqyk r78.1) fun r80 => L.zdgb.J1 r11 (r78.2.L_, r78.2.At, r80.Valves, r80.Plan.Rates, r80.Plan.Ports, r80.Plan.Pumps)
def L.zgzg.J4 (j229 : Bool) : Option Bool := some j229
def L.zgzg.J3 (r24 : Plan × KS) (j223 : (List Valve) × (List Int) × (List Int) × (List Bool)) : Option Bool := Option.bind (L.zwbu (⟨j223.2.1, j223.2.2.1, j223.2.2.2⟩ : Plan) r24.1) fun r230 => if r230 = true then Option.bind (L.zgom) fun r233 => L.zgzg.J4 r233 else L.zgzg.J4 false
def L.zgzg.J6 (st355 : (List Valve) × (List Int) × (List Int) × (List Bool) × Int) (j476 : (List Valve) × (List Int) × (List Int) × (List Bool)) : Option (((List Valve) × (List Int) × (List Int) × (List Bool) × Int) ⊕ (Bool ⊕ ((List Valve) × (List Int) × (List Int) × (List Bool)))) := some (.inl (j476.1, j476.2.1, j476.2.2.1, j476.2.2.2, wr (st355.2.2.2.2 + 1)))
def L.zgzg.B8 (j21 : (List Int) × Int × (List Valve) × (List Int) × (List Int) × (List Bool)) (r24 : Plan × KS) (j483 : (List Valve) × (List Int) × (List Int) × (List Bool) × Int) (st518 : Int) : Option (Int ⊕ (Bool ⊕ ((List Valve) × (List Int) × (List Int) × (List Bool)))) := if decide (st518 < (j483.2.1.length : Int)) = true then Option.bind (ix j483.2.1 st518) fun p540 => Option.bind (ix j21.2.2.2.1 st518) fun p542 => Option.bind (ix r24.1.Rates st518) fun p544 => if (decide (p540.2 > (max (max 0 p542.2) p544.2)) || decide (p540.2 < (min (min 0 p542.2) p544.2))) = true then some ((.inr (.inl (false)))) else some (.inl (wr (st518 + 1))) else some ((.inr (.inr ((j483.1, j483.2.1, j483.2.2.1, j483.2.2.2.1)))))
def L.zgzg.J7 (j21 : (List Int) × Int × (List Valve) × (List Int) × (List Int) × (List Bool)) (r24 : Plan × KS) (st355 : (List Valve) × (List Int) × (List Int) × (List Bool) × Int) (j483 : (List Valve) × (List Int) × (List Int) × (List Bool) × Int) : Option (((List Valve) × (List Int) × (List Int) × (List Bool) × Int) ⊕ (Bool ⊕ ((List Valve) × (List Int) × (List Int) × (List Bool)))) := if (j483.2.2.2.2 != 0) = true then some ((.inr (.inl (false)))) else Option.bind (loopN (L.zgzg.B8 j21 r24 j483) lots 0) fun o532 => Sum.elim (fun d550 => some ((.inr (.inl (d550))))) (fun d551 => L.zgzg.J6 st355 d551) o532
def L.zgzg.B5 (r11 : Network × KS) (j21 : (List Int) × Int × (List Valve) × (List Int) × (List Int) × (List Bool)) (r24 : Plan × KS) (r29 : (List Step) × Int) (st355 : (List Valve) × (List Int) × (List Int) × (List Bool) × Int) : Option (((List Valve) × (List Int) × (List Int) × (List Bool) × Int) ⊕ (Bool ⊕ ((List Valve) × (List Int) × (List Int) × (List Bool)))) := if decide (st355.2.2.2.2 < (r29.1.length : Int)) = true then Option.bind (ix r29.1 st355.2.2.2.2) fun p552 => Option.bind (L.zvix r11.1 (⟨st355.1, (⟨st355.2.1, st355.2.2.1, st355.2.2.2.1⟩ : Plan)⟩ : Desk) p552.2) fun r554 => L.zgzg.J7 j21 r24 st355 (r554.1.Valves, r554.1.Plan.Rates, r554.1.Plan.Ports, r554.1.Plan.Pumps, r554.2) else some ((.inr (.inr ((st355.1, st355.2.1, st355.2.2.1, st355.2.2.2.1)))))
def L.zgzg.J2 (r11 : Network × KS) (j21 : (List Int) × Int × (List Valve) × (List Int) × (List Int) × (List Bool)) (r24 : Plan × KS) (r29 : (List Step) × Int) (j40 : Bool) : Option Bool := if j40 = true then some false else Option.bind (loopN (L.zgzg.B5 r11 j21 r24 r29) lots (j21.2.2.1, j21.2.2.2.1, j21.2.2.2.2.1, j21.2.2.2.2.2, 0)) fun o414 => Sum.elim (fun d558 => some d558) (fun d559 => L.zgzg.J3 r24 d559) o414
def L.zgzg.J1 (ramp_1 : Int) (rest_2 : Int) (r11 : Network × KS) (j21 : (List Int) × Int × (List Valve) × (List Int) × (List Int) × (List Bool)) : Option Bool := Option.bind (L.zhma (⟨j21.1, j21.2.1⟩ : KS) r11.1) fun r24 => Option.bind (L.zzjm r11.1 (⟨j21.2.2.1, (⟨j21.2.2.2.1, j21.2.2.2.2.1, j21.2.2.2.2.2⟩ : Plan)⟩ : Desk) r24.1 (wr (1 + (wr (ramp_1)))) ((wr (rest_2)).tmod 3)) fun r29 => if (r29.2 == 4) = true then Option.bind (L.zgom) fun r34 => some r34 else if (r29.2 != 0) = true then L.zgzg.J2 r11 j21 r24 r29 true else Option.bind (L.zrbl r29.1) fun r561 => L.zgzg.J2 r11 j21 r24 r29 (decide (r561 > (wr (1 + (wr (ramp_1))))))
def L.zgzg (l_0 : List Int) (ramp_1 : Int) (rest_2 : Int) : Option Bool := if (!(L.zqaf l_0)) = true then Option.bind (L.zgom) fun r4 => some r4 else Option.bind (L.ziti l_0) fun r7 => Option.bind (L.zeju r7) fun r11 => Option.bind (L.zhma r11.2 r11.1) fun r563 => Option.bind (L.zrqy r563.2 r11.1 r563.1) fun r565 => Option.bind (L.zqyk r565.1) fun r567 => L.zgzg.J1 ramp_1 rest_2 r11 (r565.2.L_, r565.2.At, r567.Valves, r567.Plan.Rates, r567.Plan.Ports, r567.Plan.Pumps)
def FirstP (n : Network) (ports : List Int) (at_ : Int) (k : Nat) (y : Int) : Prop := (∃ p, n.Ports[k]? = some p ∧ p.Node = at_) ∧ ports[k]? = some y ∧ y < 0 ∧ ∀ (i : Nat) (p : Port) (x : Int), i < k → n.Ports[i]? = some p → p.Node = at_ → ports[i]? = some x → 0 ≤ x
def NoP (n : Network) (ports : List Int) (at_ : Int) (k : Nat) : Prop := ∀ (i : Nat) (p : Port) (x : Int), i < k → n.Ports[i]? = some p → p.Node = at_ → ports[i]? = some x → 0 ≤ x
def Lv (s : Segment) (r at_ : Int) : Prop := 0 < r ∧ s.From = at_ ∨ r < 0 ∧ s.To = at_
def NoS (n : Network) (rates : List Int) (at_ : Int) (k : Nat) : Prop := ∀ (i : Nat) (s : Segment) (r : Int), i < k → n.Segments[i]? = some s → rates[i]? = some r → ¬ Lv s r at_
def FirstS (n : Network) (rates : List Int) (at_ : Int) (k : Nat) (s : Segment) (r : Int) : Prop := n.Segments[k]? = some s ∧ rates[k]? = some r ∧ Lv s r at_ ∧ NoS n rates at_ k
theorem NoP.succ {n : Network} {ports : List Int} {at_ : Int} {k : Nat} (h : NoP n ports at_ k) {p : Port} {x : Int} (hp : n.Ports[k]? = some p) (hx : ports[k]? = some x) (hn : p.Node = at_ → 0 ≤ x) : NoP n ports at_ (k + 1) := fun i q y hi hq hqn hy => by
 by_cases hik : i = k
 ·subst hik; rw [hp] at hq; rw [hx] at hy; simp at hq hy; subst hq; subst hy; exact hn hqn
 ·exact h i q y (by omega) hq hqn hy
theorem NoS.succ {n : Network} {rates : List Int} {at_ : Int} {k : Nat} (h : NoS n rates at_ k) {s : Segment} {x : Int} (hp : n.Segments[k]? = some s) (hx : rates[k]? = some x) (hn : ¬ Lv s x at_) : NoS n rates at_ (k + 1) := fun i q y hi hq hy => by
 by_cases hik : i = k
 ·subst hik; rw [hp] at hq; rw [hx] at hy; simp at hq hy; subst hq; subst hy; exact hn
 ·exact h i q y (by omega) hq hy
theorem FirstP.one {n : Network} {ports : List Int} {at_ : Int} {k k' : Nat} {y y' : Int} (h : FirstP n ports at_ k y) (h' : FirstP n ports at_ k' y') : k = k' ∧ y = y' := by
 obtain ⟨⟨p, a1, a2⟩, a3, a4, a5⟩ := h
 obtain ⟨⟨q, b1, b2⟩, b3, b4, b5⟩ := h'
 have : k = k' := by
  rcases Nat.lt_trichotomy k k' with h | h | h
  ·have := b5 k p y h a1 a2 a3; omega
  ·exact h
  ·have := a5 k' q y' h b1 b2 b3; omega
 subst this
 rw [a3] at b3; simp at b3; exact ⟨rfl, b3⟩
theorem FirstP.no {n : Network} {ports : List Int} {at_ : Int} {k : Nat} {y : Int} (h : FirstP n ports at_ k y) (h' : NoP n ports at_ n.Ports.length) : False := by
 obtain ⟨⟨p, a1, a2⟩, a3, a4, a5⟩ := h
 have := h' k p y (gs a1).1 a1 a2 a3; omega
theorem FirstS.one {n : Network} {rates : List Int} {at_ : Int} {k k' : Nat} {s s' : Segment} {r r' : Int} (h : FirstS n rates at_ k s r) (h' : FirstS n rates at_ k' s' r') : k = k' ∧ s = s' ∧ r = r' := by
 obtain ⟨a1, a2, a3, a4⟩ := h
 obtain ⟨b1, b2, b3, b4⟩ := h'
 have : k = k' := by
  rcases Nat.lt_trichotomy k k' with h | h | h
  ·exact absurd a3 (b4 k s r h a1 a2)
  ·exact h
  ·exact absurd b3 (a4 k' s' r' h b1 b2)
 subst this
 rw [a1] at b1; rw [a2] at b2; simp at b1 b2; exact ⟨rfl, b1, b2⟩
def nextN (s : Segment) (r : Int) : Int := if r < 0 then s.From else s.To
theorem stepP {n : Network} {rates ports : List Int} (hn : NetOk n) {up : Bool} (h : Res n up rates ports) {hops : List Hop} {rate at_ : Int} (hl : hops.length ≤ 100) :
  Ok (L.zcho.B4 ⟨n, rates, ports⟩ (hops, rate, at_)) fun o => (∃ k y, FirstP n ports at_ k y ∧ o = .inr ((k : Int), hops, min rate (-y))) ∨ (NoP n ports at_ n.Ports.length ∧ ∃ k s r, FirstS n rates at_ k s r ∧ o = .inl (hops ++ [⟨(k : Int), decide (r < 0)⟩], min rate (max r (-r)), nextN s r)) ∨ (NoP n ports at_ n.Ports.length ∧ NoS n rates at_ n.Segments.length) := by
 unfold L.zcho.B4
 refine .bind' (.forL (fun k _ => NoP n ports at_ k) (fun d : Int × List Hop × Int => ∃ k y, FirstP n ports at_ k y ∧ d = ((k : Int), hops, min rate (-y))) (fun i _ _ h => absurd h (Nat.not_lt_zero _)) ?_ ?_ ?_)
 ·intro k p _ hp hi
  dsimp only at hp
  have hkl := (gs hp).1
  have hx : ports[k]? = some (ports[k]'(by have := h.pl; omega)) := gq _
  generalize ports[k]'(by have := h.pl; omega) = x at hx
  have hxr := h.prt k x hx
  unfold L.zcho.B10 L.zcho.J11
  refine Ok.iteE (fun he => .bind' (.eq (ix_nat hx) ?_)) fun he => Ok.iteB (fun h => by cases h) fun _ => .pure (hi.succ hp hx fun h => absurd h he)
  refine Ok.iteD (fun hneg => .bind' (.eq (ix_nat hx) (.pure ⟨k, x, ⟨⟨p, hp, he⟩, hx, hneg, hi⟩, ?_⟩))) fun hneg => .pure (hi.succ hp hx fun _ => by dsimp only at hneg; omega)
  dsimp only
  rw [wr_id (by omega), Int.zero_sub]
 ·intro _ hnone
  simp only [Sum.elim_inl]
  unfold L.zcho.J5
  refine .bind' (.forL (fun k _ => NoS n rates at_ k) (fun d : List Hop × Int × Int => ∃ k s r, FirstS n rates at_ k s r ∧ d = (hops ++ [⟨(k : Int), decide (r < 0)⟩], min rate (max r (-r)), nextN s r)) (fun i _ _ h => absurd h (Nat.not_lt_zero _)) ?_ ?_ ?_)
  ·intro k s _ hs hi
   dsimp only at hs
   have hkl := (gs hs).1
   have hr : rates[k]? = some (rates[k]'(by have := h.rl; omega)) := gq _
   generalize rates[k]'(by have := h.rl; omega) = r at hr
   have hrr := h.rng k r s hr hs
   unfold L.zcho.B7 L.zcho.J8 L.zcho.J9
   refine .bind' (.eq (ix_nat hr) (Ok.iteB (fun hb => .bind' (.app (by simp; omega) (.pure ?_))) fun hb1 => Ok.iteB (fun hb => .bind' (.app (by simp; omega) (.pure ?_))) fun hb2 => .pure (hi.succ hs hr fun hlv => ?_)))
   ·simp at hb
    refine ⟨k, s, r, ⟨hs, hr, .inl hb, hi⟩, ?_⟩
    unfold nextN
    rw [decide_eq_false (by omega), if_neg (by omega)]
    dsimp only; rw [show max r (-r) = r by omega]
   ·simp at hb
    refine ⟨k, s, r, ⟨hs, hr, .inr hb, hi⟩, ?_⟩
    unfold nextN
    rw [decide_eq_true hb.1, if_pos hb.1, wr_id (by omega), show max r (-r) = 0 - r by omega]
   ·simp at hb1 hb2
    rcases hlv with ⟨h1, h2⟩ | ⟨h1, h2⟩
    ·exact hb1 h1 h2
    ·exact hb2 h1 h2
  ·intro _ hno
   simp only [Sum.elim_inl]
   exact .pure (.inr (.inr ⟨hnone, hno⟩))
  ·rintro _ ⟨k, s, r, hf, rfl⟩
   exact .pure (.inr (.inl ⟨hnone, k, s, r, hf, rfl⟩))
 ·rintro _ ⟨k, y, hf, rfl⟩
  exact .pure (.inl ⟨k, y, hf, rfl⟩)
theorem leaves25 {n : Network} {rates : List Int} {up : Bool} {ports : List Int} (hn : NetOk n) (h : Res n up rates ports) {at_ : Int} :
  Ok (L.zbad n rates at_) fun o => (∃ k s r, FirstS n rates at_ k s r ∧ o = (⟨(k : Int), decide (r < 0)⟩, true)) ∨ (NoS n rates at_ n.Segments.length) := by
 have hrl := h.rl; have h1 := hn.segs1
 unfold L.zbad
 refine .bind (Q := fun d : (Hop × Bool) ⊕ Unit => (∃ k s r, FirstS n rates at_ k s r ∧ d = .inl (⟨(k : Int), decide (r < 0)⟩, true)) ∨ (NoS n rates at_ n.Segments.length ∧ d = .inr ())) ?_ ?_
 ·refine .loop (fun st : Int => 0 ≤ st ∧ st ≤ (rates.length : Int) ∧ NoS n rates at_ st.toNat) (fun st => rates.length - st.toNat) ⟨by omega, by omega, fun i _ _ h => absurd h (Nat.not_lt_zero _)⟩ (by omega) ?_
  rintro st ⟨h0, h2, hi⟩
  obtain ⟨k, rfl⟩ := nat_of h0
  rw [Int.toNat_natCast] at hi
  unfold L.zbad.B2
  refine Ok.iteD (fun hlt => ?_) fun hge => .pure (.inr ⟨by rw [show n.Segments.length = k by omega]; exact hi, rfl⟩)
  have hr : rates[k]? = some (rates[k]'(by omega)) := gq _
  have hs : n.Segments[k]? = some (n.Segments[k]'(by omega)) := gq _
  generalize rates[k]'(by omega) = r at hr
  generalize n.Segments[k]'(by omega) = s at hs
  have yes : Lv s r at_ → Ok (L.zbad.J3 rates (k : Int) true) (Sum.elim (fun st : Int => (0 ≤ st ∧ st ≤ (rates.length : Int) ∧ NoS n rates at_ st.toNat) ∧ rates.length - st.toNat < rates.length - ((k : Nat) : Int).toNat) fun d => (∃ k s r, FirstS n rates at_ k s r ∧ d = .inl (⟨(k : Int), decide (r < 0)⟩, true)) ∨ (NoS n rates at_ n.Segments.length ∧ d = .inr ())) := by
   intro hl
   unfold L.zbad.J3
   exact Ok.iteB (fun _ => .bind' (.eq (ix_nat hr) (.pure (.inl ⟨k, s, r, ⟨hs, hr, hl, hi⟩, rfl⟩)))) fun h => by cases h
  have no : ¬ Lv s r at_ → Ok (L.zbad.J3 rates (k : Int) false) (Sum.elim (fun st : Int => (0 ≤ st ∧ st ≤ (rates.length : Int) ∧ NoS n rates at_ st.toNat) ∧ rates.length - st.toNat < rates.length - ((k : Nat) : Int).toNat) fun d => (∃ k s r, FirstS n rates at_ k s r ∧ d = .inl (⟨(k : Int), decide (r < 0)⟩, true)) ∨ (NoS n rates at_ n.Segments.length ∧ d = .inr ())) := by
   intro hl
   unfold L.zbad.J3
   refine Ok.iteB (fun h => by cases h) fun _ => .pure ?_
   rw [wr_id (by omega)]
   exact ⟨⟨by omega, by omega, by rw [show ((k : Int) + 1).toNat = k + 1 by omega]; exact hi.succ hs hr hl⟩, by omega⟩
  refine .bind' (.eq (ix_nat hr) (Ok.iteD (fun hp => .bind' (.eq (ix_nat hs) (Ok.iteE (fun he => yes (.inl ⟨hp, he⟩)) fun he => Ok.iteD (fun hq => by dsimp only at hp hq; omega) fun _ => no ?_))) fun hp => Ok.iteD (fun hq => .bind' (.eq (ix_nat hs) ?_)) fun hq => no ?_))
  ·rintro (⟨_, h⟩ | ⟨h, _⟩)
   ·exact he h
   ·dsimp only at hp; omega
  ·dsimp only at hp hq ⊢
   by_cases he : s.To = at_
   ·rw [show (s.To == at_) = true by simp [he]]; exact yes (.inr ⟨hq, he⟩)
   ·rw [show (s.To == at_) = false by simp [he]]
    refine no ?_
    rintro (⟨h, _⟩ | ⟨_, h⟩)
    ·omega
    ·exact he h
  ·dsimp only at hp hq
   rintro (⟨h, _⟩ | ⟨h, _⟩) <;> omega
 ·rintro d (⟨k, s, r, hf, rfl⟩ | ⟨hno, rfl⟩)
  ·exact .pure (.inl ⟨k, s, r, hf, rfl⟩)
  ·exact .pure (.inr hno)
theorem stepR {n : Network} {rates ports : List Int} (hn : NetOk n) {up : Bool} (h : Res n up rates ports) {hops : List Hop} {rate at_ in_ : Int} (hl : hops.length ≤ 100) {j : Nat} (hj : j ≤ n.Nodes.length) (hc : NoP n ports at_ n.Ports.length → ¬ NoS n rates at_ n.Segments.length) :
  Ok (L.znud.B2 n rates ports in_ (hops, rate, at_, (j : Int))) fun o => (∃ k y, FirstP n ports at_ k y ∧ o = .inr (.inl (⟨in_, (k : Int), hops, min rate (-y)⟩, true))) ∨ (NoP n ports at_ n.Ports.length ∧ ∃ k s r, FirstS n rates at_ k s r ∧ o = .inl (hops ++ [⟨(k : Int), decide (r < 0)⟩], min rate (max r (-r)), nextN s r, ((j + 1 : Nat) : Int))) := by
 have hpl := h.pl; have h2 := hn.ports1; have hnn := hn.nodes
 unfold L.znud.B2
 refine Ok.iteD (fun _ => ?_) fun h => by dsimp only at h; omega
 refine .bind (Q := fun d : (Path × Bool) ⊕ Unit => (∃ k y, FirstP n ports at_ k y ∧ d = .inl (⟨in_, (k : Int), hops, min rate (-y)⟩, true)) ∨ (NoP n ports at_ n.Ports.length ∧ d = .inr ())) ?_ ?_
 ·refine .loop (fun st : Int => 0 ≤ st ∧ st ≤ (ports.length : Int) ∧ NoP n ports at_ st.toNat) (fun st => ports.length - st.toNat) ⟨by omega, by omega, fun i _ _ h => absurd h (Nat.not_lt_zero _)⟩ (by omega) ?_
  rintro st ⟨h0, h4, hi⟩
  obtain ⟨k, rfl⟩ := nat_of h0
  rw [Int.toNat_natCast] at hi
  unfold L.znud.B5
  refine Ok.iteD (fun hlt => ?_) fun hge => .pure (.inr ⟨by rw [show n.Ports.length = k by omega]; exact hi, rfl⟩)
  have hp : n.Ports[k]? = some (n.Ports[k]'(by omega)) := gq _
  have hx : ports[k]? = some (ports[k]'(by omega)) := gq _
  generalize n.Ports[k]'(by omega) = p at hp
  generalize ports[k]'(by omega) = x at hx
  have hxr := h.prt k x hx
  have no : (p.Node = at_ → 0 ≤ x) → Ok (L.znud.J6 ports in_ (hops, rate, at_, (j : Int)) (k : Int) false) (Sum.elim (fun st : Int => (0 ≤ st ∧ st ≤ (ports.length : Int) ∧ NoP n ports at_ st.toNat) ∧ ports.length - st.toNat < ports.length - ((k : Nat) : Int).toNat) fun d => (∃ k y, FirstP n ports at_ k y ∧ d = .inl (⟨in_, (k : Int), hops, min rate (-y)⟩, true)) ∨ (NoP n ports at_ n.Ports.length ∧ d = .inr ())) := by
   intro hh
   unfold L.znud.J6
   refine Ok.iteB (fun h => by cases h) fun _ => .pure ?_
   rw [wr_id (by omega)]
   exact ⟨⟨by omega, by omega, by rw [show ((k : Int) + 1).toNat = k + 1 by omega]; exact hi.succ hp hx hh⟩, by omega⟩
  refine .bind' (.eq (ix_nat hp) (Ok.iteE (fun he => .bind' (.eq (ix_nat hx) ?_)) fun he => no fun h => absurd h he))
  dsimp only
  by_cases hneg : x < 0
  ·rw [decide_eq_true hneg]
   unfold L.znud.J6
   refine Ok.iteB (fun _ => .bind' (.eq (ix_nat hx) (.pure (.inl ⟨k, x, ⟨⟨p, hp, he⟩, hx, hneg, hi⟩, ?_⟩)))) fun h => by cases h
   dsimp only
   rw [wr_id (by omega), Int.zero_sub]
  ·rw [decide_eq_false hneg]
   exact no fun _ => by omega
 ·rintro d (⟨k, y, hf, rfl⟩ | ⟨hno, rfl⟩)
  ·exact .pure (.inl ⟨k, y, hf, rfl⟩)
  ·simp only [Sum.elim_inr]
   unfold L.znud.J4
   refine .bind (leaves25 hn h) ?_
   rintro _ (⟨k, s, r, hf, rfl⟩ | hns)
   ·have hf' := hf
    obtain ⟨q1, q2, q3, _⟩ := hf'
    have hrr := h.rng k r s q2 q1
    refine Ok.iteN (fun h => by cases h) fun _ => .bind' (.app (by simp; omega) (.bind' (.eq (ix_nat q2) ?_)))
    refine .bind (Q := fun e : Int × Int => e.2 = nextN s r) ?_ ?_
    ·unfold L.ztgl nextN
     refine .bind' (.eq (ix_nat q1) ?_)
     dsimp only
     by_cases hr : r < 0
     ·rw [decide_eq_true hr, if_pos hr]; exact Ok.iteB (fun _ => .pure rfl) fun h => by cases h
     ·rw [decide_eq_false hr, if_neg hr]; exact Ok.iteB (fun h => by cases h) fun _ => .pure rfl
    rintro ⟨e1, e2⟩ he
    dsimp only at he
    subst he
    unfold L.znud.J3 L.zkae
    refine .pure (.inr ⟨hno, k, s, r, hf, ?_⟩)
    dsimp only
    rw [wr_id (x := (j : Int) + 1) (by omega), wr_id (x := 0 - r) (by omega), show (0 : Int) - r = -r by omega]; rfl
   ·exact absurd hns (hc hno)
theorem goesOn {n : Network} {up : Bool} {rates ports : List Int} (h : Res n up rates ports) {at_ : Int} (hc : Comes n rates ports at_) (h1 : NoP n ports at_ n.Ports.length) : ¬ NoS n rates at_ n.Segments.length := fun h2 =>
 leaves h hc (fun i p x hp => h1 i p x (gs hp).1 hp) fun k s r hs hr => by
  have := h2 k s r (gs hs).1 hs hr
  unfold Lv at this
  exact ⟨fun h => this (.inl h), fun h => this (.inr h)⟩
theorem walk_step {n : Network} (hn : NetOk n) {up : Bool} {rates ports : List Int} (h : Res n up rates ports) {x0 s0 : Int} {hops : List Hop} {rate at_ : Int} (w : Walk n up rates ports x0 s0 hops rate at_) {k : Nat} {s : Segment} {r : Int} (hf : FirstS n rates at_ k s r) :
  Walk n up rates ports x0 s0 (hops ++ [⟨(k : Int), decide (r < 0)⟩]) (min rate (max r (-r))) (nextN s r) ∧ far n up (nextN s r) < far n up at_ := by
 obtain ⟨q2, q3, q4, _⟩ := hf
 obtain ⟨nd, w1, w2, w3⟩ := w.way
 have hlen := w.len
 have hrate := w.rt
 have hat := w.at_
 have hh : HopIs n rates at_ ⟨(k : Int), decide (r < 0)⟩ (nextN s r) := by
  refine ⟨k, s, r, rfl, q2, q3, ?_⟩
  rcases q4 with ⟨a, b⟩ | ⟨a, b⟩
  ·exact .inl ⟨by simp; omega, a, b, by unfold nextN; rw [if_neg (by omega)]⟩
  ·exact .inr ⟨by simp [a], a, b, by unfold nextN; rw [if_pos a]⟩
 have hlt := hh.lt h
 have hse := (hn.segs k s q2).ends
 have hto : 0 ≤ nextN s r ∧ nextN s r < (n.Nodes.length : Int) := by unfold nextN; split <;> omega
 have hfar := far_lt hat hto hlt
 have ea : amt rates ⟨(k : Int), decide (r < 0)⟩ = max r (-r) := amt_at rfl q3
 have hr0 : r ≠ 0 := by rcases q4 with ⟨a, _⟩ | ⟨a, _⟩ <;> omega
 refine ⟨⟨⟨_, w1.snoc (by rw [w3]; exact hh), by simp [w2], by simp; omega⟩, hto, by simp; omega, by omega, fun x hx => ?_, ?_, .inr ⟨k, s, r, q2, q3, by omega, ?_⟩⟩, hfar⟩
 ·rcases List.mem_append.1 hx with hx | hx
  ·have := w.most x hx; omega
  ·simp at hx; subst hx; rw [ea]; omega
 ·by_cases hle : rate ≤ max r (-r)
  ·rw [show min rate (max r (-r)) = rate by omega]
   rcases w.tight with ht | ⟨x, hx, ht⟩
   ·exact .inl ht
   ·exact .inr ⟨x, by simp [hx], ht⟩
  ·exact .inr ⟨⟨(k : Int), decide (r < 0)⟩, by simp, by rw [ea]; omega⟩
 ·unfold nextN
  rcases q4 with ⟨a, b⟩ | ⟨a, b⟩
  ·exact .inl ⟨a, by rw [if_neg (by omega)]⟩
  ·exact .inr ⟨a, by rw [if_pos a]⟩
theorem walks {n : Network} (hn : NetOk n) {up : Bool} {rates ports : List Int} (h : Res n up rates ports) {i0 : Nat} {p0 : Port} {x0 : Int} (hp0 : n.Ports[i0]? = some p0) (hx0 : ports[i0]? = some x0) (hpos : 0 < x0) {d : Int × List Hop × Int}
  (hd : loopN (L.zcho.B4 ⟨n, rates, ports⟩) lots ([], x0, p0.Node) = some d) :
  loopN (L.znud.B2 n rates ports (i0 : Int)) lots ([], x0, p0.Node, 0) = some (.inl (⟨(i0 : Int), d.1, d.2.1, d.2.2⟩, true)) := by
 have hnn := hn.nodes; have hsn := hn.segs1
 have hpn := (hn.ports i0 p0 hp0).node
 have : Ok (loopN (L.znud.B2 n rates ports (i0 : Int)) lots ([], x0, p0.Node, 0)) fun o => o = .inl (⟨(i0 : Int), d.1, d.2.1, d.2.2⟩, true) := by
  refine .loop (S := List Hop × Int × Int × Int) (fun st => Walk n up rates ports x0 p0.Node st.1 st.2.1 st.2.2.1 ∧ st.2.2.2 = (st.1.length : Int) ∧ ∃ fuel, loopN (L.zcho.B4 ⟨n, rates, ports⟩) fuel (st.1, st.2.1, st.2.2.1) = some d) (fun st => far n up st.2.2.1)
   ⟨⟨⟨fun _ => p0.Node, ⟨by simp⟩, rfl, rfl⟩, hpn, ?_, by dsimp only; omega, by simp, .inl rfl, .inl ⟨i0, p0, x0, hp0, rfl, hx0, hpos⟩⟩, rfl, lots, hd⟩ ?_ ?_
  ·dsimp only [List.length_nil]
   unfold far; split <;> omega
  ·dsimp only
   unfold far; split <;> omega
  rintro ⟨hops, rate, at_, j⟩ ⟨w, hj, fuel, hl⟩
  dsimp only at w hl hj
  subst hj
  have hlen := w.len
  cases fuel with
  | zero => simp [loopN] at hl
  | succ fuel =>
   obtain ⟨o, ho, hP⟩ := stepP (rate := rate) (at_ := at_) hn h (hops := hops) (by omega)
   simp only [loopN, ho] at hl
   refine (stepR hn h (hops := hops) (by omega) (by omega) (goesOn h w.comes)).mono ?_
   rintro _ (⟨k, y, hf, rfl⟩ | ⟨hno, k, s, r, hf, rfl⟩)
   ·rcases hP with ⟨k', y', hf', rfl⟩ | ⟨hno', _⟩ | ⟨hno', _⟩
    ·obtain ⟨rfl, rfl⟩ := hf.one hf'
     simp only [Option.some.injEq] at hl
     subst hl; rfl
    ·exact (hf.no hno').elim
    ·exact (hf.no hno').elim
   ·rcases hP with ⟨k', y', hf', rfl⟩ | ⟨_, k', s', r', hf', rfl⟩ | ⟨_, hns⟩
    ·exact (hf'.no hno).elim
    ·obtain ⟨rfl, rfl, rfl⟩ := hf.one hf'
     obtain ⟨w', hfar⟩ := walk_step hn h w hf
     exact ⟨⟨w', by simp, fuel, hl⟩, hfar⟩
    ·exact absurd hns (goesOn h w.comes hno)
 obtain ⟨o, h, rfl⟩ := this
 exact h
theorem follow25 {n : Network} (hn : NetOk n) {up : Bool} {rates ports : List Int} (h : Res n up rates ports) {i0 : Nat} {x0 : Int} (hx0 : ports[i0]? = some x0) (hpos : 0 < x0) {r : Path × paths_divider} (hr : L.zcho ⟨n, rates, ports⟩ (i0 : Int) = some r) :
  L.znud n rates ports (i0 : Int) = some (r.1, true) := by
 have hil := (gs hx0).1
 have hp0 : n.Ports[i0]? = some (n.Ports[i0]'(by have := h.pl; omega)) := gq _
 generalize n.Ports[i0]'(by have := h.pl; omega) = p0 at hp0
 unfold L.zcho at hr
 obtain ⟨p, e1, hr⟩ := Option.bind_eq_some_iff.1 hr
 dsimp only at e1
 rw [ix_nat hx0] at e1; cases e1
 obtain ⟨p, e1, hr⟩ := Option.bind_eq_some_iff.1 hr
 dsimp only at e1
 rw [ix_nat hp0] at e1; cases e1
 obtain ⟨d, hd, hr⟩ := Option.bind_eq_some_iff.1 hr
 have hw := walks hn h hp0 hx0 hpos hd
 unfold L.zcho.J1 at hr
 obtain ⟨q, _, hr⟩ := Option.bind_eq_some_iff.1 hr
 obtain ⟨z, _, hr⟩ := Option.bind_eq_some_iff.1 hr
 unfold L.zcho.J2 at hr
 cases hr
 have : Ok (L.znud n rates ports (i0 : Int)) fun o => o = (⟨(i0 : Int), d.1, d.2.1, d.2.2⟩, true) := by
  unfold L.znud
  refine .bind' (.eq (ix_nat hx0) (.bind' (.eq (ix_nat hp0) ?_)))
  dsimp only
  rw [hw]
  exact .bind' (.pure (.pure rfl))
 obtain ⟨o, h, rfl⟩ := this
 exact h
inductive Dv (n : Network) : List Int → List Int → Nat → List Path → List Path → Prop
 | done {rates ports : List Int} {k : Nat} {out : List Path} (h : ports.length ≤ k) : Dv n rates ports k out out
 | next {rates ports : List Int} {k : Nat} {out a : List Path} {x : Int} (h : ports[k]? = some x) (hx : x ≤ 0) (t : Dv n rates ports (k + 1) out a) : Dv n rates ports k out a
 | path {rates ports : List Int} {k : Nat} {out a : List Path} {x : Int} {r : Path × paths_divider} (h : ports[k]? = some x) (hx : 0 < x) (hf : L.zcho ⟨n, rates, ports⟩ (k : Int) = some r) (t : Dv n r.2.rates r.2.ports k (out ++ [r.1]) a) : Dv n rates ports k out a
theorem Dv.one {n : Network} {rates ports : List Int} {k : Nat} {out a b : List Path} (h : Dv n rates ports k out a) : Dv n rates ports k out b → a = b := by
 induction h with
 | done h =>
  intro h'
  cases h' with
  | done _ => rfl
  | next h2 _ _ => have := (gs h2).1; omega
  | path h2 _ _ _ => have := (gs h2).1; omega
 | next h hx t ih =>
  intro h'
  cases h' with
  | done h2 => have := (gs h).1; omega
  | next h2 _ t2 => exact ih t2
  | path h2 hx2 _ _ => rw [h] at h2; simp at h2; omega
 | path h hx hf t ih =>
  intro h'
  cases h' with
  | done h2 => have := (gs h).1; omega
  | next h2 hx2 _ => rw [h] at h2; simp at h2; omega
  | path h2 hx2 hf2 t2 => rw [hf] at hf2; cases hf2; exact ih t2
theorem divideDv {n : Network} (hn : NetOk n) {p : Plan} (hp : PlanOk n p) : Ok (L.zxps n p) fun r => Dv n p.Rates p.Ports 0 [] r.1 := by
 obtain ⟨up, hres⟩ := hp.res
 have h1 := hn.segs1; have h2 := hn.ports1; have h3 := hp.rl; have h4 := hp.pl
 have hcnt : nz p.Rates + nz p.Ports ≤ 14 := by have := nz_len p.Rates; have := nz_len p.Ports; omega
 unfold L.zxps
 rw [netCheck hn, flowCheck hn hp]
 refine .bind' (.pure (Ok.iteU (fun h => absurd rfl h) fun _ => .bind' (.pure (Ok.iteU (fun h => absurd rfl h) fun _ => ?_))))
 rw [clone_ok (by omega), clone_ok (by omega)]
 refine .bind' (.pure (.bind' (.pure ?_)))
 let I : Nat → List ByteArray × List Segment × List Port × List Station × Int × Int × List Int × List Int × List Path → Prop := fun k st => ∃ rates ports out, st = (n.Nodes, n.Segments, n.Ports, n.Stations, n.Vapour, n.Settle, rates, ports, out) ∧ DInv n up p rates ports out ∧ ∀ a, Dv n rates ports k out a → Dv n p.Rates p.Ports 0 [] a
 refine .bind' (.forI (S := List ByteArray × List Segment × List Port × List Station × Int × Int × List Int × List Int × List Path) I (fun _ => False) ⟨_, _, _, rfl, .start hres, fun a h => h⟩ ?_ ?_ fun _ h => h.elim)
 ·rintro k _ hk ⟨rates, ports, out, rfl, hi, hz⟩
  unfold L.zxps.B2
  dsimp only
  refine .bind (Q := fun d : ((List Path) × Int) ⊕ (List ByteArray × List Segment × List Port × List Station × Int × Int × List Int × List Int × List Path) => ∃ st, d = .inr st ∧ I (k + 1) st) ?_ ?_
  ·refine .loop (S := List ByteArray × List Segment × List Port × List Station × Int × Int × List Int × List Int × List Path) (I k) (fun st => nz st.2.2.2.2.2.2.1 + nz st.2.2.2.2.2.2.2.1) ⟨rates, ports, out, rfl, hi, hz⟩ (by have := hi.count; dsimp only; omega) ?_
   rintro _ ⟨rates, ports, out, rfl, hi, hz⟩
   have hpl := hi.res.pl
   have hx : ports[k]? = some (ports[k]'(by omega)) := gq _
   generalize ports[k]'(by omega) = x at hx
   unfold L.zxps.B4
   refine .bind' (.eq (ix_nat hx) (Ok.iteD (fun hpos => ?_) fun hneg => .pure ⟨_, rfl, rates, ports, out, rfl, hi, fun a h => hz a (.next hx (by dsimp only at hneg; omega) h)⟩))
   dsimp only at hpos ⊢
   obtain ⟨⟨y, d⟩, hfo, o, p0, po, y1, nd, f⟩ := follow_ok hn hi.res hx hpos
   dsimp only at f
   refine .bind' (.eq hfo ?_)
   obtain ⟨g1, g2, g3⟩ := hi.follow hres f
   have hc := hi.count
   have hf := f.len
   refine Ok.iteB (fun hb => ?_) fun _ => .bind' (.app (by simp; omega) (.pure ⟨⟨d.rates, d.ports, out ++ [y], ?_, g1, fun a h => hz a (.path hx hpos hfo h)⟩, g2⟩))
   ·simp at hb; omega
   ·rw [f.net]
  ·rintro _ ⟨st, rfl, rates, ports, out, rfl, hi, hz⟩
   simp only [Sum.elim_inr]
   unfold L.zxps.J3
   exact .pure ⟨rates, ports, out, rfl, hi, hz⟩
 ·rintro _ ⟨rates, ports, out, rfl, hi, hz⟩
  simp only [Sum.elim_inl]
  unfold L.zxps.J1
  exact .pure (hz _ (.done (by have := hi.res.pl; omega)))
theorem divide25 {n : Network} (hn : NetOk n) {p : Plan} (hp : PlanOk n p) {a : List Path} (ha : L.zxps n p = some (a, 0)) : L.ztrc n p = some (a, 0) := by
 have : Ok (L.ztrc n p) fun r => r.2 = 0 ∧ Dv n p.Rates p.Ports 0 [] r.1 := by
  obtain ⟨up, hres⟩ := hp.res
  have h1 := hn.segs1; have h2 := hn.ports1; have h3 := hp.rl; have h4 := hp.pl
  have hcnt : nz p.Rates + nz p.Ports ≤ 14 := by have := nz_len p.Rates; have := nz_len p.Ports; omega
  unfold L.ztrc
  rw [check16 hn hp.flow]
  refine .bind' (.pure (Ok.iteU (fun h => absurd rfl h) fun _ => .bind' (.app (by simp; omega) (.bind' (.app (by simp; omega) ?_)))))
  simp only [List.nil_append]
  refine .bind (Q := fun d : ((List Path) × Int) ⊕ List Path => ∃ a, d = .inr a ∧ Dv n p.Rates p.Ports 0 [] a) ?_ ?_
  ·refine .loop (S := List Int × List Int × List Path × Int) (fun st => ∃ k : Nat, st.2.2.2 = (k : Int) ∧ k ≤ n.Ports.length ∧ DInv n up p st.1 st.2.1 st.2.2.1 ∧ ∀ a, Dv n st.1 st.2.1 k st.2.2.1 a → Dv n p.Rates p.Ports 0 [] a) (fun st => n.Ports.length - st.2.2.2.toNat)
    ⟨0, rfl, by omega, .start hres, fun a h => h⟩ (by dsimp only; omega) ?_
   rintro ⟨rates, ports, out, j⟩ ⟨k, hj, hk, hi, hz⟩
   dsimp only at hj hi hz
   subst hj
   have hpl := hi.res.pl
   unfold L.ztrc.B2
   refine Ok.iteD (fun hlt => ?_) fun hge => .pure ⟨_, rfl, hz _ (.done (by dsimp only at hge; omega))⟩
   dsimp only at hlt
   refine .bind (Q := fun d : ((List Path) × Int) ⊕ (List Int × List Int × List Path) => ∃ st, d = .inr st ∧ DInv n up p st.1 st.2.1 st.2.2 ∧ ∀ a, Dv n st.1 st.2.1 (k + 1) st.2.2 a → Dv n p.Rates p.Ports 0 [] a) ?_ ?_
   ·refine .loop (S := List Int × List Int × List Path) (fun st => DInv n up p st.1 st.2.1 st.2.2 ∧ ∀ a, Dv n st.1 st.2.1 k st.2.2 a → Dv n p.Rates p.Ports 0 [] a) (fun st => nz st.1 + nz st.2.1) ⟨hi, hz⟩ (by have := hi.count; dsimp only; omega) ?_
    rintro ⟨rates, ports, out⟩ ⟨hi, hz⟩
    dsimp only at hi hz
    have hpl := hi.res.pl; have hrl := hi.res.rl
    have hx : ports[k]? = some (ports[k]'(by omega)) := gq _
    generalize ports[k]'(by omega) = x at hx
    unfold L.ztrc.B4
    refine .bind' (.eq (ix_nat hx) (Ok.iteD (fun hpos => ?_) fun hneg => .pure ⟨_, rfl, hi, fun a h => hz a (.next hx (by dsimp only at hneg; omega) h)⟩))
    dsimp only at hpos ⊢
    obtain ⟨⟨y, d⟩, hfo, o, p0, po, y1, nd, f⟩ := follow_ok hn hi.res hx hpos
    dsimp only at f
    obtain ⟨g1, g2, g3⟩ := hi.follow hres f
    have hc := hi.count
    have hf := f.len
    obtain ⟨hx0, hx0p⟩ := f.hx0
    obtain ⟨hy, hyn⟩ := f.hy
    have hrt := f.rt
    have hxr := hi.res.prt k x hx
    have hyr := hi.res.prt o y1 hy
    have hne : k ≠ o := by rintro rfl; rw [hx] at hy; simp at hy; omega
    refine .bind' (.eq (follow25 hn hi.res hx hpos hfo) ?_)
    refine Ok.iteB (fun hb => ?_) fun _ => ?_
    ·simp at hb; omega
    rw [f.in_, f.out]
    refine .bind' (.eq (ix_nat hx) ?_)
    dsimp only
    rw [wr_id (x := x - y.Rate) (by omega)]
    refine .bind' (.eq (ix_nat (show (ports.set k (x - y.Rate))[o]? = some y1 by rw [List.getElem?_set_ne hne]; exact hy)) ?_)
    have e : (ports.set k (wr (x - y.Rate))).set o (wr (y1 + y.Rate)) = d.ports := by rw [wr_id (x := x - y.Rate) (by omega), wr_id (x := y1 + y.Rate) (by omega), f.hports]
    refine .bind (Q := fun rs => rs = d.rates) ?_ ?_
    ·refine .loop (S := List Int × Int) (fun st => ∃ j : Nat, st.2 = (j : Int) ∧ j ≤ y.Hops.length ∧ st.1.length = rates.length ∧ ∀ (m : Nat) (r : Int), rates[m]? = some r → st.1[m]? = some (r - hsum y.Rate m (y.Hops.take j))) (fun st => y.Hops.length - st.2.toNat) ⟨0, rfl, by omega, rfl, fun m r hm => by simp [hsum, hm]⟩ (by dsimp only; omega) ?_
     rintro ⟨st, i⟩ ⟨j, hj, hjl, hsl, hst⟩
     dsimp only at hj hsl hst
     subst hj
     unfold L.ztrc.B6
     refine Ok.iteD (fun hlt => ?_) fun hge => .pure ?_
     ·dsimp only at hlt
      have hh : y.Hops[j]? = some (y.Hops[j]'(by omega)) := gq _
      generalize y.Hops[j]'(by omega) = hp at hh
      obtain ⟨m, s, r0, q1, q2, q3, q4⟩ := f.way.hop j hp hh
      have hm := hst m r0 q3
      have hrr := hi.res.rng m r0 s q3 q2
      have hb := hsum_bnd (rate := y.Rate) (by omega) m (y.Hops.take j)
      rw [List.length_take] at hb
      refine .bind' (.eq (ix_nat hh) ?_)
      dsimp only
      rw [q1]
      have j7 : ∀ z, z = r0 - hsum y.Rate m (y.Hops.take j) - sgn y.Rate hp → Ok (L.ztrc.J7 (st, (j : Int)) (st.set m z)) (Sum.elim (fun st : List Int × Int => (∃ j : Nat, st.2 = (j : Int) ∧ j ≤ y.Hops.length ∧ st.1.length = rates.length ∧ ∀ (m : Nat) (r : Int), rates[m]? = some r → st.1[m]? = some (r - hsum y.Rate m (y.Hops.take j))) ∧ y.Hops.length - st.2.toNat < y.Hops.length - ((j : Nat) : Int).toNat) fun rs => rs = d.rates) := by
       intro z hz'
       unfold L.ztrc.J7
       refine .pure ⟨⟨j + 1, by dsimp only; rw [wr_id (by omega)]; omega, by omega, by simp [hsl], fun m' r hm' => ?_⟩, by dsimp only; rw [wr_id (by omega)]; omega⟩
       dsimp only
       rw [hsum_take hh]
       have hml := (gs hm).1
       by_cases hmm : m = m'
       ·subst hmm
        rw [hm'] at q3; simp at q3; subst q3
        rw [List.getElem?_set_self hml, if_pos q1, hz']; congr 1; omega
       ·rw [List.getElem?_set_ne hmm, hst m' r hm', if_neg (by omega)]; simp
      rcases q4 with ⟨b, _⟩ | ⟨b, _⟩
      ·rw [b]
       refine Ok.iteB (fun h => by cases h) fun _ => .bind' (.eq (ix_nat hm) ?_)
       dsimp only
       rw [wr_id (by omega)]
       exact j7 _ (by unfold sgn; rw [b]; simp)
      ·rw [b]
       refine Ok.iteB (fun _ => .bind' (.eq (ix_nat hm) ?_)) fun h => by cases h
       dsimp only
       rw [wr_id (by omega)]
       exact j7 _ (by unfold sgn; rw [b]; simp)
     ·dsimp only at hge
      have : j = y.Hops.length := by omega
      subst this
      show st = d.rates
      obtain ⟨r1, r2⟩ := f.hrates
      refine List.ext_getElem? fun m => ?_
      by_cases hm : m < rates.length
      ·rw [hst m _ (gq hm), r2 m _ (gq hm), List.take_length]
      ·rw [List.getElem?_eq_none (by omega), List.getElem?_eq_none (by omega)]
    ·rintro _ rfl
     unfold L.ztrc.J5
     refine .bind' (.app (by simp; omega) ?_)
     dsimp only
     rw [e]
     exact .pure ⟨⟨g1, fun a h => hz a (.path hx hpos hfo h)⟩, g2⟩
   ·rintro _ ⟨st, rfl, hi, hz⟩
    simp only [Sum.elim_inr]
    unfold L.ztrc.J3
    exact .pure ⟨⟨k + 1, by dsimp only; rw [wr_id (by omega)]; omega, by omega, hi, hz⟩, by dsimp only; rw [wr_id (by omega)]; omega⟩
  ·rintro _ ⟨a, rfl, hd⟩
   exact .pure ⟨rfl, hd⟩
 obtain ⟨⟨b, e⟩, h, rfl, hb⟩ := this
 obtain ⟨⟨a', e'⟩, h', ha'⟩ := divideDv hn hp
 rw [ha] at h'; cases h'
 have := ha'.one hb
 dsimp only at this
 subst this
 exact h
def FlowIn (ramp : Int) (s : Step) : Prop := s.Kind = 5 → -ramp ≤ s.Value ∧ s.Value ≤ ramp
theorem falls_in {u : Path} {sign ramp rest : Int} (hs : sign = 1 ∨ sign = -1) (hr : 1 ≤ ramp) : ∀ (m : Nat) (b : Int), b.toNat ≤ m → ∀ s, s ∈ falls u sign ramp rest b → FlowIn ramp s
 | 0, b, hb, s, h => by rw [falls_nil (by omega)] at h; cases h
 | m + 1, b, hb, s, h => by
  by_cases h0 : 0 < b
  ·rw [falls_pos h0 (by omega)] at h
   rcases List.mem_cons.1 h with rfl | h
   ·intro _; show -ramp ≤ sign * min b ramp ∧ sign * min b ramp ≤ ramp
    rcases hs with rfl | rfl <;> omega
   ·rcases List.mem_append.1 h with h | h
    ·unfold waits at h
     split at h
     ·rw [List.mem_singleton] at h; subst h; intro hk; cases hk
     ·cases h
    ·exact falls_in hs hr m (b - ramp) (by omega) s h
  ·rw [falls_nil (by omega)] at h; cases h
theorem fallsAll_in {sign ramp rest : Int} (hs : sign = 1 ∨ sign = -1) (hr : 1 ≤ ramp) {l other : List Path} {s : Step} (h : s ∈ fallsAll sign ramp rest l other) : FlowIn ramp s := by
 unfold fallsAll at h
 obtain ⟨u, _, h⟩ := List.mem_flatMap.1 h
 exact falls_in hs hr _ _ (Nat.le_refl _) s h
theorem out_in {ramp rest : Int} (hr : 1 ≤ ramp) {a b : List Path} {sp cs os : List Nat} {most : Int} {ss : List Nat} {s : Step} (h : s ∈ out27 ramp rest a b sp cs os most ss) : FlowIn ramp s := by
 unfold out27 at h
 simp only [List.mem_append, List.mem_map] at h
 rcases h with ((((⟨i, _, rfl⟩ | h) | ⟨i, _, rfl⟩ | ⟨i, _, rfl⟩) | h) | h) | ⟨i, _, rfl⟩
 ·intro hk; cases hk
 ·exact fallsAll_in (.inr rfl) hr h
 ·intro hk; cases hk
 ·intro hk; cases hk
 ·unfold waits at h
  split at h
  ·rw [List.mem_singleton] at h; subst h; intro hk; cases hk
  ·cases h
 ·exact fallsAll_in (.inl rfl) hr h
 ·intro hk; cases hk
theorem Qst.len {n : Network} {a b : List Path} {f : Desk} (h : Qst n a b f) : f.Plan.Rates.length = n.Segments.length := by
 rcases h with ⟨rs, _, _, h2, _⟩ | ⟨rs, _, _, h2, _⟩ <;> rw [h2, ratesOf_len]
end Go.Proofs.YtmaamhgjeampmaaGreat
