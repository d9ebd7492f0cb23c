/- A plan that a reader of numbers gives has no fault. No condition. -/
import Derived.Test.YtndfiddakngjdaaP8
namespace Go.Proofs.Ytndfiddakngjdaa
set_option linter.unusedVariables false
set_option linter.unusedSimpArgs false
open Go.Aw

def val {n : Nat} (a : Arr Int n) (v : Nat) : Int := a.l.getD v 0

theorem val_set {n : Nat} {a : Arr Int n} {i v : Nat} {x : Int} (hv : v < n) : val (a.set i x) v = if i = v then x else val a v := by
  unfold val Arr.set
  dsimp only
  rw [List.getD_eq_getElem?_getD, List.getD_eq_getElem?_getD, get_set]
  have := a.h
  by_cases h : i = v
  · rw [if_pos ⟨h, by omega⟩, if_pos h]; rfl
  · rw [if_neg (fun h' => h h'.1), if_neg h]

theorem val_get {n : Nat} {a : Arr Int n} {i : Nat} {x : Int} (h : a.l[i]? = some x) : val a i = x := by
  unfold val; rw [List.getD_eq_getElem?_getD, h]; rfl

theorem val_rep {n v : Nat} : val (Arr.rep n (0 : Int)) v = 0 := by
  unfold val Arr.rep
  dsimp only
  rw [List.getD_eq_getElem?_getD, List.getElem?_replicate]
  split <;> rfl

/-- What comes and what leaves are small, and their difference. -/
structure Strm (b : Int) (s : flow_streams) (f : Nat → Int) : Prop where
  come : ∀ v, v < 24 → 0 ≤ val s.come v ∧ val s.come v ≤ b
  leave : ∀ v, v < 24 → 0 ≤ val s.leave v ∧ val s.leave v ≤ b
  diff : ∀ v, v < 24 → val s.come v - val s.leave v = f v

theorem ind_self (v : Int) : ind v v = 1 := if_pos rfl
theorem ind_ne {a v : Int} (h : a ≠ v) : ind a v = 0 := if_neg h

theorem add_ok {s : flow_streams} {b : Int} {f : Nat → Int} (h : Strm b s f) (hb : 0 ≤ b ∧ b ≤ 1000000) {from_ to_ rate : Int} (hf : from_ < 24) (ht : to_ < 24) (hft : -1 ≤ from_ ∧ -1 ≤ to_)
    (hr : -1000 ≤ rate ∧ rate ≤ 1000) : Ok (L.flow_streams_add s from_ to_ rate) fun r => Strm (b + 1000) r fun v => f v + (ind to_ v - ind from_ v) * rate := by
  have main : ∀ (from_ to_ rate : Int), from_ < 24 → to_ < 24 → -1 ≤ from_ ∧ -1 ≤ to_ → 0 ≤ rate ∧ rate ≤ 1000 → Ok (L.flow_streams_add.J1 s (from_, to_, rate)) fun r => Strm (b + 1000) r fun v => f v + (ind to_ v - ind from_ v) * rate := by
    intro from_ to_ rate hf ht hft hr
    have j2 : ∀ (lv : Arr Int 24), (∀ v, v < 24 → 0 ≤ val lv v ∧ val lv v ≤ b + 1000 ∧ val lv v = val s.leave v + ind from_ v * rate) → Ok (L.flow_streams_add.J2 s (from_, to_, rate) lv) fun r => Strm (b + 1000) r fun v => f v + (ind to_ v - ind from_ v) * rate := by
      intro lv hlv
      unfold L.flow_streams_add.J2
      refine Ok.iteD (fun h0 => ?_) fun h0 => .pure ?_
      · dsimp only at h0
        obtain ⟨t, rfl⟩ := nat_of h0
        have hl := s.come.h
        refine .bind' (.ix t rfl (by omega) ?_)
        have hx : s.come.l[t]? = some s.come.l[t] := List.getElem?_eq_getElem (by omega)
        have hvx := val_get hx
        have hcx := h.come t (by omega)
        dsimp only
        rw [wr_id (by omega)]
        refine .pure ⟨fun v hv => ?_, fun v hv => ⟨(hlv v hv).1, (hlv v hv).2.1⟩, fun v hv => ?_⟩
        · have := h.come v hv
          dsimp only
          rw [val_set hv]; split <;> omega
        · have h1 := h.diff v hv
          have h2 := (hlv v hv).2.2
          dsimp only
          rw [val_set hv, h2, Int.sub_mul]
          by_cases htv : t = v
          · subst htv; rw [if_pos rfl, ind_self]; omega
          · rw [if_neg htv, ind_ne (a := (t : Int)) (by omega)]; omega
      · dsimp only at h0
        refine ⟨fun v hv => ?_, fun v hv => ⟨(hlv v hv).1, (hlv v hv).2.1⟩, fun v hv => ?_⟩
        · have := h.come v hv
          dsimp only; omega
        · have h1 := h.diff v hv
          have h2 := (hlv v hv).2.2
          dsimp only
          rw [h2, Int.sub_mul, ind_ne (a := to_) (by omega)]; omega
    unfold L.flow_streams_add.J1
    refine Ok.iteD (fun h0 => ?_) fun h0 => ?_
    · dsimp only at h0
      obtain ⟨t, rfl⟩ := nat_of h0
      have hl := s.leave.h
      refine .bind' (.ix t rfl (by omega) ?_)
      have hx : s.leave.l[t]? = some s.leave.l[t] := List.getElem?_eq_getElem (by omega)
      have hvx := val_get hx
      have hcx := h.leave t (by omega)
      dsimp only
      rw [wr_id (by omega)]
      refine j2 _ fun v hv => ?_
      have := h.leave v hv
      rw [val_set hv]
      by_cases htv : t = v
      · subst htv; rw [if_pos rfl, ind_self]; omega
      · rw [if_neg htv, ind_ne (by omega)]; omega
    · dsimp only at h0
      refine j2 _ fun v hv => ?_
      have := h.leave v hv
      rw [ind_ne (by omega)]; omega
  unfold L.flow_streams_add
  refine Ok.iteD (fun h0 => ?_) fun h0 => main _ _ _ hf ht hft (by omega)
  rw [wr_id (by omega)]
  refine (main to_ from_ (0 - rate) ht hf ⟨hft.2, hft.1⟩ (by omega)).mono fun r hr => ⟨hr.come, hr.leave, fun v hv => ?_⟩
  rw [hr.diff v hv]
  have : ∀ a b r : Int, (a - b) * (0 - r) = (b - a) * r := fun a b r => by rw [Int.zero_sub, Int.mul_neg, ← Int.neg_mul]; congr 1; omega
  rw [this]

def Blocked (n : Network) (p : Plan) (there : List Bool) (j : Nat) : Prop :=
  ∃ (i : Nat) (s : Segment) (r : Int) (f : Nat), n.Segments[i]? = some s ∧ p.Rates[i]? = some r ∧ r ≠ 0 ∧ (L.flow_Ends s r).2 = (j : Int) ∧ (L.flow_Ends s r).1 = (f : Int) ∧ there[f]? = some false

/-- Nothing flows in a circle. -/
def Acyc (n : Network) (p : Plan) : Prop := ∀ there : List Bool, there.length = n.Nodes.length → (∀ j : Nat, there[j]? = some false → Blocked n p there j) → ∀ k : Nat, there[k]? ≠ some false

/-- What the check of a plan asks. -/
structure FlowOk (n : Network) (p : Plan) : Prop where
  rl : p.Rates.length = n.Segments.length
  pl : p.Ports.length = n.Ports.length
  ml : p.Pumps.length = n.Stations.length
  rng : ∀ (k : Nat) (r : Int) (s : Segment), p.Rates[k]? = some r → n.Segments[k]? = some s → -1000 ≤ r ∧ r ≤ 1000 ∧ -s.Capacity ≤ r ∧ r ≤ s.Capacity
  prt : ∀ (k : Nat) (x : Int), p.Ports[k]? = some x → -1000 ≤ x ∧ x ≤ 1000
  bal : ∀ v : Nat, v < 24 → dot (wt n v) p.Rates + dot (wp n v) p.Ports = 0
  acyc : Acyc n p

theorem endsOf {s : Segment} {r : Int} (hr0 : r ≠ 0) : L.flow_Ends s r = (s.To, s.From) ∧ r < 0 ∨ L.flow_Ends s r = (s.From, s.To) ∧ 0 < r := by
  unfold L.flow_Ends
  by_cases hn : r < 0
  · exact .inl ⟨by rw [if_pos (by simp [hn])], hn⟩
  · exact .inr ⟨by rw [if_neg (by simp [hn])], by omega⟩

theorem PlanOk.flow {n : Network} {p : Plan} (h : PlanOk n p) : FlowOk n p := by
  refine ⟨h.rl, h.pl, h.ml, h.rng, h.prt, fun v _ => h.bal v, fun there hl i5 => ?_⟩
  rcases h.dir with hd | hd
  · intro k
    induction k using Nat.strongRecOn with
    | ind k ih =>
      intro hk
      have hkl := (List.getElem?_eq_some_iff.1 hk).1
      obtain ⟨i, s, r, f, hs, hr, hr0, hto, hfr, hf⟩ := i5 k hk
      have := hd i r s hr hs
      refine ih f ?_ hf
      rcases endsOf (s := s) hr0 with ⟨he, hr1⟩ | ⟨he, hr1⟩ <;> rw [he] at hto hfr <;> dsimp only at hto hfr <;> omega
  · have : ∀ m k : Nat, there.length - k = m → there[k]? ≠ some false := by
      intro m
      induction m using Nat.strongRecOn with
      | ind m ih =>
        intro k hm hk
        have hkl := (List.getElem?_eq_some_iff.1 hk).1
        obtain ⟨i, s, r, f, hs, hr, hr0, hto, hfr, hf⟩ := i5 k hk
        have hfl := (List.getElem?_eq_some_iff.1 hf).1
        have := hd i r s hr hs
        refine ih (there.length - f) ?_ f rfl hf
        rcases endsOf (s := s) hr0 with ⟨he, hr1⟩ | ⟨he, hr1⟩ <;> rw [he] at hto hfr <;> dsimp only at hto hfr <;> omega
    exact fun k => this _ k rfl

theorem sums_ok {n : Network} (hn : NetOk n) {p : Plan} (h : FlowOk n p) : Ok (L.flow_sums n p) fun r => Strm 14000 r fun _ => 0 := by
  have h1 := hn.nodes; have h2 := hn.segs1; have h3 := hn.ports1; have h4 := h.rl; have h5 := h.pl
  unfold L.flow_sums
  refine .bind (.forS (fun k st => Strm (1000 * k) ⟨st.1, st.2⟩ fun v => dot (wt n v) (p.Rates.take k)) ⟨fun v hv => ?_, fun v hv => ?_, fun v hv => ?_⟩ ?_ fun st h => h) ?_
  · dsimp only; rw [val_rep]; omega
  · dsimp only; rw [val_rep]; omega
  · dsimp only; rw [val_rep]; simp [dot_nil]
  · intro k s st hs hi
    have hkl := (List.getElem?_eq_some_iff.1 hs).1
    have hr : p.Rates[k]? = some p.Rates[k] := List.getElem?_eq_getElem (by omega)
    have hrr := h.rng k _ s hr hs
    have he := (hn.segs k s hs).ends
    unfold L.flow_sums.B4
    refine .bind' (.ix k rfl (by omega) (.bind (add_ok hi (by omega) (by omega) (by omega) (by omega) (by dsimp only; omega)) fun r hr2 => .pure ?_))
    refine ⟨fun v hv => ?_, fun v hv => ?_, fun v hv => ?_⟩
    · have := hr2.come v hv; dsimp only; omega
    · have := hr2.leave v hv; dsimp only; omega
    · have := hr2.diff v hv
      dsimp only at this ⊢
      rw [this, dot_take_succ (w := wt n v) (a := ind s.To v - ind s.From v) (by unfold wt; rw [List.getElem?_map, hs]; rfl) hr]
  · intro st hi
    rw [List.take_of_length_le (by omega)] at hi
    unfold L.flow_sums.J1
    refine .bind (.forS (fun k st => Strm (8000 + 1000 * k) ⟨st.1, st.2⟩ fun v => dot (wt n v) p.Rates + dot (wp n v) (p.Ports.take k)) ⟨fun v hv => ?_, fun v hv => ?_, fun v hv => ?_⟩ ?_ fun st h => h) ?_
    · have := hi.come v hv; dsimp only at this ⊢; omega
    · have := hi.leave v hv; dsimp only at this ⊢; omega
    · have := hi.diff v hv; dsimp only at this ⊢; rw [this]; simp [dot_nil]
    · intro k s st hs hi
      have hkl := (List.getElem?_eq_some_iff.1 hs).1
      have hr : p.Ports[k]? = some p.Ports[k] := List.getElem?_eq_getElem (by omega)
      have hrr := h.prt k _ hr
      have he := (hn.ports k s hs).node
      unfold L.flow_sums.B3
      refine .bind' (.ix k rfl (by omega) (.bind (add_ok hi (by omega) (by omega) (by omega) (by omega) (by dsimp only; omega)) fun r hr2 => .pure ?_))
      refine ⟨fun v hv => ?_, fun v hv => ?_, fun v hv => ?_⟩
      · have := hr2.come v hv; dsimp only; omega
      · have := hr2.leave v hv; dsimp only; omega
      · have := hr2.diff v hv
        dsimp only at this ⊢
        rw [this, dot_take_succ (w := wp n v) (a := ind s.Node v) (by unfold wp; rw [List.getElem?_map, hs]; rfl) hr, ind_ne (a := -1) (by omega), Int.sub_zero]; omega
    · intro st hi
      rw [List.take_of_length_le (by omega)] at hi
      unfold L.flow_sums.J2
      refine .pure ⟨fun v hv => ?_, fun v hv => ?_, fun v hv => ?_⟩
      · have := hi.come v hv; dsimp only at this ⊢; omega
      · have := hi.leave v hv; dsimp only at this ⊢; omega
      · have := hi.diff v hv; rw [h.bal v hv] at this; exact this

/-- How many are true. -/
def cnt : List Bool → Nat
  | [] => 0
  | b :: l => (if b = true then 1 else 0) + cnt l
theorem cnt_le : ∀ l : List Bool, cnt l ≤ l.length
  | [] => Nat.le_refl _
  | b :: l => by have := cnt_le l; cases b <;> simp [cnt] <;> omega
theorem cnt_rep (n : Nat) : cnt (List.replicate n false) = 0 := by induction n with | zero => rfl | succ n ih => simp [List.replicate_succ, cnt, ih]
theorem cnt_set : ∀ {l : List Bool} {k : Nat}, l[k]? = some false → cnt (l.set k true) = cnt l + 1
  | [], k, h => by simp at h
  | b :: l, 0, h => by simp at h; subst h; simp [cnt]; omega
  | b :: l, k + 1, h => by simp at h; simp [cnt, cnt_set h]; omega
theorem cnt_all : ∀ {l : List Bool}, (∀ k : Nat, l[k]? ≠ some false) → cnt l = l.length
  | [], _ => rfl
  | b :: l, h => by
    have h0 := h 0
    have := cnt_all (l := l) fun k => by have := h (k + 1); simpa using this
    cases b <;> simp [cnt, this] at h0 ⊢; omega

theorem order_ok {n : Network} (hn : NetOk n) {p : Plan} (h : FlowOk n p) : Ok (L.flow_order n p) fun r => r.length = n.Nodes.length := by
  have h1 := hn.nodes; have h2 := hn.segs1; have h4 := h.rl
  unfold L.flow_order
  refine .bind' (.mk n.Nodes.length rfl (by omega) ?_)
  refine .bind (Q := fun r : List Int => r.length = n.Nodes.length) ?_ fun r hr => .pure hr
  refine .loop (fun st : List Int × List Bool × Int => st.2.1.length = n.Nodes.length ∧ st.1.length = cnt st.2.1 ∧ 0 ≤ st.2.2 ∧ st.2.2 ≤ (n.Nodes.length : Int) ∧ ∀ j : Nat, (j : Int) < st.2.2 → st.2.1[j]? = some false → Blocked n p st.2.1 j)
    (fun st => (n.Nodes.length - cnt st.2.1) * 10 + (n.Nodes.length - st.2.2.toNat)) ⟨by simp, by simp [cnt_rep], by simp, by simp, fun j hj => by dsimp only at hj; omega⟩ (by dsimp only; rw [cnt_rep]; omega) ?_
  rintro ⟨out, there, k⟩ ⟨i1, i2, i3, i4, i5⟩
  dsimp only at i1 i2 i3 i4 i5
  have hc := cnt_le there
  unfold L.flow_order.B2
  refine Ok.iteD (fun h0 => ?_) fun h0 => ?_
  · dsimp only at h0
    obtain ⟨kk, rfl⟩ := nat_of i3
    have hkl : kk < there.length := by omega
    have hx : there[kk]? = some there[kk] := List.getElem?_eq_getElem hkl
    have next : Blocked n p there kk ∨ there[kk] = true → Ok (L.flow_order.J3 (out, there, (kk : Int))) (Sum.elim (fun st => (st.2.1.length = n.Nodes.length ∧ st.1.length = cnt st.2.1 ∧ 0 ≤ st.2.2 ∧ st.2.2 ≤ (n.Nodes.length : Int) ∧ ∀ j : Nat, (j : Int) < st.2.2 → st.2.1[j]? = some false → Blocked n p st.2.1 j) ∧
        (n.Nodes.length - cnt st.2.1) * 10 + (n.Nodes.length - st.2.2.toNat) < (n.Nodes.length - cnt there) * 10 + (n.Nodes.length - (kk : Int).toNat)) fun r : List Int => r.length = n.Nodes.length) := by
      intro hb
      unfold L.flow_order.J3
      dsimp only
      rw [wr_id (by omega)]
      refine .pure ⟨⟨i1, i2, by dsimp only; omega, by dsimp only; omega, fun j hj hf => ?_⟩, by dsimp only; omega⟩
      dsimp only at hj hf
      by_cases hjk : j = kk
      · subst hjk
        rcases hb with hb | hb
        · exact hb
        · rw [hx, hb] at hf; cases hf
      · exact i5 j (by omega) hf
    refine .bind' (.eq (ix_nat hx) (Ok.iteB (fun ht => next (.inr ht)) fun ht => ?_))
    dsimp only at ht
    refine .bind' (.forL (fun _ _ => True) (fun d => d = (out, there, (kk : Int)) ∧ Blocked n p there kk) trivial ?_ ?_ ?_)
    · intro i s _ hs _
      have hil := (List.getElem?_eq_some_iff.1 hs).1
      have hr : p.Rates[i]? = some p.Rates[i] := List.getElem?_eq_getElem (by omega)
      have he := (hn.segs i s hs).ends
      have no : Ok (L.flow_order.J6 (out, there, (kk : Int)) false) (Sum.elim (fun _ : Unit => True) fun d => d = (out, there, (kk : Int)) ∧ Blocked n p there kk) := by
        unfold L.flow_order.J6
        exact .pure trivial
      unfold L.flow_order.B5
      refine .bind' (.eq (ix_nat hr) (Ok.iteU (fun hr0 => Ok.iteE (fun hto => ?_) fun _ => no) fun _ => no))
      dsimp only at hr0 hto ⊢
      have hfr : 0 ≤ (L.flow_Ends s p.Rates[i]).1 ∧ (L.flow_Ends s p.Rates[i]).1 < (n.Nodes.length : Int) := by
        unfold L.flow_Ends
        split <;> dsimp only <;> omega
      refine .bind' (.ix' hfr.1 (by omega) fun f x hf hfx => ?_)
      unfold L.flow_order.J6
      refine Ok.iteN (fun hx0 => .pure ⟨rfl, i, s, p.Rates[i], f, hs, hr, hr0, hto, hf, by dsimp only at hx0 hfx; rw [hfx, hx0]⟩) fun _ => .pure trivial
    · intro _ _
      simp only [Sum.elim_inl]
      unfold L.flow_order.J4
      refine .bind' (.app (by simp; omega) ?_)
      unfold L.flow_order.J3
      dsimp only
      rw [wr_id (by omega)]
      have hx' : there[kk]? = some false := by rw [hx, ht]
      have hcs := cnt_set hx'
      have hcl := cnt_le (there.set kk true)
      simp at hcl
      refine .pure ⟨⟨by simp [i1], by simp [hcs, i2], by simp, by dsimp only; omega, fun j hj => by dsimp only at hj; omega⟩, ?_⟩
      dsimp only
      rw [hcs]; omega
    · rintro _ ⟨rfl, hb⟩
      exact next (.inl hb)
  · dsimp only at h0
    have hk : k = (n.Nodes.length : Int) := by omega
    subst hk
    have all := h.acyc there i1 fun j hj => i5 j (by have := (List.getElem?_eq_some_iff.1 hj).1; omega) hj
    exact .pure (by simp only [Sum.elim_inr]; rw [i2, cnt_all all, i1])

theorem flowCheckF {n : Network} (hn : NetOk n) {p : Plan} (h : FlowOk n p) : L.flow_Check n p = some 0 := by
  have h1 := hn.nodes; have h2 := hn.segs1; have h3 := hn.ports1; have h4 := h.rl; have h5 := h.pl; have h6 := h.ml; have h7 := hn.sts1
  have : Ok (L.flow_Check n p) fun r => r = 0 := by
    unfold L.flow_Check
    refine .bind' (.eq (netCheck hn) (Ok.iteU (fun h => absurd rfl h) fun _ => Ok.iteB (fun hb => ?_) fun _ => ?_))
    · simp [h4, h5, h6] at hb
    refine .bind' (.forL (fun _ _ => True) (fun _ => False) trivial ?_ ?_ fun _ h => h.elim)
    · intro k s _ hs _
      have hkl := (List.getElem?_eq_some_iff.1 hs).1
      have hr : p.Rates[k]? = some p.Rates[k] := List.getElem?_eq_getElem (by omega)
      have hrr := h.rng k _ s hr hs
      have hc := (hn.segs k s hs).cap
      unfold L.flow_Check.B2
      refine .bind' (.eq (ix_nat hr) (Ok.iteN (fun hb => ?_) fun _ => .pure trivial))
      unfold L.flow_within at hb
      rw [wr_id (by omega)] at hb
      simp at hb
      omega
    · intro _ _
      simp only [Sum.elim_inl]
      unfold L.flow_Check.J1
      refine .bind' (.eq (containsFunc_int_int (P := fun x => L.flow_Check_1 x) fun _ _ _ => rfl) ?_)
      rw [any_false]
      · refine Ok.iteB (fun h => by cases h) fun _ => .bind (sums_ok hn h) fun r hr => ?_
        have he : r.come = r.leave := by
          refine Arr.ext' (List.ext_getElem (by rw [r.come.h, r.leave.h]) fun i a b => ?_)
          have := hr.diff i (by rw [← r.come.h]; exact a)
          rw [val_get (List.getElem?_eq_getElem a), val_get (List.getElem?_eq_getElem b)] at this
          omega
        refine Ok.iteN (fun hb => ?_) fun _ => .bind (order_ok hn h) fun r hr => Ok.iteD (fun hb => ?_) fun _ => .pure rfl
        · simp [he] at hb
        · omega
      · intro k x hx
        have := h.prt k x hx
        unfold L.flow_Check_1 L.flow_within
        rw [wr_id (by omega)]
        simp; omega
  obtain ⟨r, h, rfl⟩ := this
  exact h

theorem flowCheck {n : Network} (hn : NetOk n) {p : Plan} (h : PlanOk n p) : L.flow_Check n p = some 0 := flowCheckF hn h.flow

end Go.Proofs.Ytndfiddakngjdaa
