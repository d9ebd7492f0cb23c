/- The reference's check of a plan, and the law of the third plan. No condition. -/
import Derived.Test.YtndfiddakngjdaaP13
namespace Go.Proofs.Ytndfiddakngjdaa
set_option linter.unusedVariables false
set_option linter.unusedSimpArgs false
open Go.Aw

theorem abs16 {x : Int} (h : -1000000 ≤ x ∧ x ≤ 1000000) : L.ref16_Abs x = max x (-x) := by
  unfold L.ref16_Abs
  rw [wr_id (by omega), Int.zero_sub]

theorem endsOf16 {s : Segment} {r : Int} : L.ref16_Ends s r = L.flow_Ends s r := rfl

/-- What the reference finds at a node. -/
structure Sum16 (b : Int) (st : Int × Int) (d : Int) : Prop where
  come : 0 ≤ st.1 ∧ st.1 ≤ b
  leave : 0 ≤ st.2 ∧ st.2 ≤ b
  diff : st.1 - st.2 = d

theorem sums16_ok {n : Network} (hn : NetOk n) {p : Plan} (h4 : p.Rates.length = n.Segments.length) (h5 : p.Ports.length = n.Ports.length) (hr : ∀ (k : Nat) (r : Int), p.Rates[k]? = some r → -1000 ≤ r ∧ r ≤ 1000)
    (hp : ∀ (k : Nat) (x : Int), p.Ports[k]? = some x → -1000 ≤ x ∧ x ≤ 1000) (v : Nat) : Ok (L.ref16_sums n p (v : Int)) fun r => r.1 - r.2 = dot (wt n v) p.Rates + dot (wp n v) p.Ports := by
  have h2 := hn.segs1; have h3 := hn.ports1
  unfold L.ref16_sums
  refine .bind (.forS (fun k (st : Int × Int) => Sum16 (1000 * k) st (dot (wt n v) (p.Rates.take k))) ⟨by simp, by simp, by simp [dot_nil]⟩ ?_ fun st h => h) ?_
  · rintro k s ⟨a, b⟩ hs ⟨i1, i2, i3⟩
    dsimp only at i1 i2 i3
    have hkl := (List.getElem?_eq_some_iff.1 hs).1
    have hrk : p.Rates[k]? = some p.Rates[k] := List.getElem?_eq_getElem (by omega)
    have hrr := hr k _ hrk
    have he := (hn.segs k s hs).ends
    have hd := dot_take_succ (w := wt n v) (a := ind s.To v - ind s.From v) (by unfold wt; rw [List.getElem?_map, hs]; rfl) hrk
    generalize p.Rates[k] = r at hrk hrr hd
    unfold L.ref16_sums.B5
    refine .bind' (.eq (ix_nat hrk) (Ok.iteE (fun h0 => ?_) fun h0 => ?_))
    · dsimp only at h0
      subst h0
      unfold L.ref16_sums.J6
      rw [hd]
      exact .pure ⟨by dsimp only; omega, by dsimp only; omega, by simp; omega⟩
    dsimp only at h0 ⊢
    have ha := abs16 (x := r) (by omega)
    rw [ha]
    have j7 : ∀ (j : Int), 0 ≤ j ∧ j ≤ 1000 * k + 1000 → ∀ l : Int, l = ind (L.flow_Ends s r).1 v → j = b + max r (-r) * l → Ok (L.ref16_sums.J7 (v : Int) s (a, b) (k, r) j) fun st => Sum16 (1000 * ((k + 1 : Nat) : Int)) st (dot (wt n v) (p.Rates.take (k + 1))) := by
      intro j hj l hl hjl
      unfold L.ref16_sums.J7 L.ref16_sums.J6
      dsimp only
      rw [ha, endsOf16]
      have fin : ∀ c : Int, c = ind (L.flow_Ends s r).2 v → a + max r (-r) * c - j = dot (wt n v) (p.Rates.take (k + 1)) := by
        intro c hc
        subst hc; subst hl; subst hjl
        rw [hd]
        rcases endsOf (s := s) h0 with ⟨e, hr0⟩ | ⟨e, hr0⟩
        · rw [e]
          dsimp only
          rw [show max r (-r) = -r by omega, Int.neg_mul, Int.neg_mul, Int.sub_mul, Int.mul_comm r, Int.mul_comm r]; omega
        · rw [e]
          dsimp only
          rw [show max r (-r) = r by omega, Int.sub_mul, Int.mul_comm r, Int.mul_comm r]; omega
      refine Ok.iteE (fun hv => .pure ?_) fun hv => .pure ?_
      · rw [wr_id (by omega)]
        have := fin 1 (by rw [hv, ind_self])
        exact ⟨by dsimp only; omega, by dsimp only; omega, by dsimp only; omega⟩
      · have := fin 0 (by rw [ind_ne hv])
        exact ⟨by dsimp only; omega, by dsimp only; omega, by dsimp only; omega⟩
    rw [endsOf16]
    refine Ok.iteE (fun hv => j7 _ ?_ 1 (by rw [hv, ind_self]) ?_) fun hv => j7 _ ?_ 0 (by rw [ind_ne hv]) ?_
    · rw [wr_id (by omega)]; omega
    · rw [wr_id (by omega)]; omega
    · omega
    · omega
  · rintro ⟨a, b⟩ hi
    rw [List.take_of_length_le (by omega)] at hi
    unfold L.ref16_sums.J1
    refine .bind (.forS (fun k (st : Int × Int) => Sum16 (8000 + 1000 * k) st (dot (wt n v) p.Rates + dot (wp n v) (p.Ports.take k))) ⟨by have := hi.come; dsimp only at this ⊢; omega, by have := hi.leave; dsimp only at this ⊢; omega, by have := hi.diff; dsimp only at this ⊢; simp [dot_nil]; omega⟩ ?_ fun st h => h) ?_
    · rintro k s ⟨a, b⟩ hs ⟨i1, i2, i3⟩
      dsimp only at i1 i2 i3
      have hkl := (List.getElem?_eq_some_iff.1 hs).1
      have hrk : p.Ports[k]? = some p.Ports[k] := List.getElem?_eq_getElem (by omega)
      have hrr := hp k _ hrk
      have hd := dot_take_succ (w := wp n v) (a := ind s.Node v) (by unfold wp; rw [List.getElem?_map, hs]; rfl) hrk
      generalize p.Ports[k] = r at hrk hrr hd
      unfold L.ref16_sums.B3 L.ref16_sums.J4
      refine Ok.iteE (fun hv => .bind' (.eq (ix_nat hrk) (.pure ?_))) fun hv => .pure ?_
      · rw [hv, ind_self] at hd
        dsimp only
        rw [wr_id (x := 0 - r) (by omega), wr_id (by omega), wr_id (by omega), hd]
        exact ⟨by dsimp only; omega, by dsimp only; omega, by dsimp only; omega⟩
      · rw [ind_ne hv] at hd
        rw [hd]
        exact ⟨by dsimp only; omega, by dsimp only; omega, by dsimp only; omega⟩
    · rintro ⟨a, b⟩ hi
      rw [List.take_of_length_le (by omega)] at hi
      unfold L.ref16_sums.J2
      exact .pure hi.diff

theorem cnt_full : ∀ {l : List Bool}, cnt l = l.length → ∀ k : Nat, l[k]? ≠ some false
  | [], _, k => by simp
  | b :: l, h, k => by
    have hl := cnt_le l
    cases b with
    | false => simp [cnt] at h; omega
    | true =>
      have : cnt l = l.length := by simp [cnt] at h; omega
      cases k with
      | zero => simp
      | succ k => simpa using cnt_full this k

theorem acyc_of_rank {n : Network} {p : Plan} (rank : Nat → Nat) (h : ∀ (i : Nat) (s : Segment) (r : Int) (f t : Nat), n.Segments[i]? = some s → p.Rates[i]? = some r → r ≠ 0 → (L.flow_Ends s r).1 = (f : Int) → (L.flow_Ends s r).2 = (t : Int) → t < n.Nodes.length → rank f < rank t) : Acyc n p := by
  intro there hl hb
  have : ∀ m k : Nat, rank k = m → there[k]? ≠ some false := by
    intro m
    induction m using Nat.strongRecOn with
    | ind m ih =>
      intro k hm hk
      have hkl := (List.getElem?_eq_some_iff.1 hk).1
      obtain ⟨i, s, r, f, hs, hr, hr0, hto, hfr, hf⟩ := hb k hk
      exact ih (rank f) (by have := h i s r f k hs hr hr0 hfr hto (by omega); omega) f rfl hf
  exact fun k => this _ k rfl

/-- A node to which something flows only from such as are there. -/
def Ready (n : Network) (p : Plan) (there : List Bool) (k : Nat) : Prop :=
  there[k]? = some false ∧ ∀ (i : Nat) (s : Segment) (r : Int) (f : Nat), n.Segments[i]? = some s → p.Rates[i]? = some r → r ≠ 0 → (L.flow_Ends s r).1 = (f : Int) → (L.flow_Ends s r).2 = (k : Int) → there[f]? = some true

def Ranked (n : Network) (p : Plan) (there : List Bool) (m : Nat) (rank : Nat → Nat) : Prop :=
  (∀ k : Nat, there[k]? = some true → rank k < m) ∧ ∀ (i : Nat) (s : Segment) (r : Int) (f t : Nat), n.Segments[i]? = some s → p.Rates[i]? = some r → r ≠ 0 → (L.flow_Ends s r).1 = (f : Int) → (L.flow_Ends s r).2 = (t : Int) → there[t]? = some true → there[f]? = some true ∧ rank f < rank t

theorem order16_ok {n : Network} (hn : NetOk n) {p : Plan} (h4 : p.Rates.length = n.Segments.length) : Ok (L.ref16_order n p) fun r => r.length = n.Nodes.length → Acyc n p := by
  have h1 := hn.nodes; have h2 := hn.segs1
  unfold L.ref16_order
  refine .bind' (.mk n.Nodes.length rfl (by omega) ?_)
  refine .bind (Q := fun r : List Int => r.length = n.Nodes.length → Acyc n p) ?_ fun r hr => .pure hr
  refine .loop (fun st : List Int × List Bool => st.2.length = n.Nodes.length ∧ st.1.length = cnt st.2 ∧ ∃ rank, Ranked n p st.2 st.1.length rank) (fun st => n.Nodes.length - cnt st.2)
    ⟨by simp, by simp [cnt_rep], fun _ => 0, fun k hk => ?_, fun i s r f t _ _ _ _ _ ht => ?_⟩ (by dsimp only; omega) ?_
  · have := List.mem_of_getElem? hk; simp at this
  · have := List.mem_of_getElem? ht; simp at this
  rintro ⟨out, there⟩ ⟨i1, i2, rank, i3, i4⟩
  dsimp only at i1 i2 i3 i4
  have hc := cnt_le there
  unfold L.ref16_order.B1
  refine .bind (Q := fun k : Int => k = -1 ∨ ∃ j : Nat, k = (j : Int) ∧ Ready n p there j) ?_ ?_
  · refine .forS (fun _ (k : Int) => k = -1 ∨ ∃ j : Nat, k = (j : Int) ∧ Ready n p there j) (.inl rfl) ?_ fun _ h => h
    intro k x st hx hst
    have hkl := (List.getElem?_eq_some_iff.1 hx).1
    have ht : there[k]? = some there[k] := List.getElem?_eq_getElem (by omega)
    unfold L.ref16_order.B3
    refine .bind' (.eq (ix_nat ht) ?_)
    refine .bind (Q := fun b => b = true → Ready n p there k) ?_ ?_
    · refine .forS (fun m (b : Bool) => b = true → there[k]? = some false ∧ ∀ (i : Nat) (s : Segment) (r : Int) (f : Nat), i < m → n.Segments[i]? = some s → p.Rates[i]? = some r → r ≠ 0 → (L.flow_Ends s r).1 = (f : Int) → (L.flow_Ends s r).2 = (k : Int) → there[f]? = some true) ?_ ?_ ?_
      · intro hb
        refine ⟨?_, fun i s r f hi => absurd hi (Nat.not_lt_zero _)⟩
        rw [ht]
        simpa using hb
      · intro i s b hs hb
        have hil := (List.getElem?_eq_some_iff.1 hs).1
        have hr : p.Rates[i]? = some p.Rates[i] := List.getElem?_eq_getElem (by omega)
        have he := (hn.segs i s hs).ends
        have step : ∀ b' : Bool, (b' = true → b = true ∧ (p.Rates[i] ≠ 0 → ∀ f : Nat, (L.flow_Ends s p.Rates[i]).1 = (f : Int) → (L.flow_Ends s p.Rates[i]).2 = (k : Int) → there[f]? = some true)) → Ok (L.ref16_order.J7 b') fun b => b = true → there[k]? = some false ∧ ∀ (j : Nat) (s : Segment) (r : Int) (f : Nat), j < i + 1 → n.Segments[j]? = some s → p.Rates[j]? = some r → r ≠ 0 → (L.flow_Ends s r).1 = (f : Int) → (L.flow_Ends s r).2 = (k : Int) → there[f]? = some true := by
          intro b' hb'
          unfold L.ref16_order.J7
          refine .pure fun hbt => ?_
          obtain ⟨hbb, hlast⟩ := hb' hbt
          obtain ⟨q1, q2⟩ := hb hbb
          refine ⟨q1, fun j s' r f hj hs' hr' hr0 hf htt => ?_⟩
          by_cases hji : j = i
          · subst hji
            rw [hs] at hs'; rw [hr] at hr'
            simp at hs' hr'
            subst hs'; subst hr'
            exact hlast hr0 f hf htt
          · exact q2 j s' r f (by omega) hs' hr' hr0 hf htt
        unfold L.ref16_order.B6
        refine .bind' (.eq (ix_nat hr) (Ok.iteU (fun hr0 => Ok.iteB (fun hbt => Ok.iteU (fun hto => step _ fun _ => ⟨hbt, fun _ f hf htt => absurd htt hto⟩) fun hto => ?_) fun _ => step _ fun h => by cases h) fun hr0 => step _ fun h => ⟨h, fun h0 => absurd hr0 h0⟩))
        have hfr : 0 ≤ (L.ref16_Ends s p.Rates[i]).1 ∧ (L.ref16_Ends s p.Rates[i]).1 < (n.Nodes.length : Int) := by
          unfold L.ref16_Ends
          split <;> dsimp only <;> omega
        refine .bind' (.ix' hfr.1 (by dsimp only; omega) fun f y hf hy => step _ fun hy1 => ⟨hbt, fun _ f' hf' _ => ?_⟩)
        dsimp only at hf hy hy1
        rw [endsOf16] at hf
        have : f' = f := by omega
        subst this
        rw [hy, hy1]
      · intro b hb hbt
        obtain ⟨q1, q2⟩ := hb hbt
        exact ⟨q1, fun i s r f hs => q2 i s r f (List.getElem?_eq_some_iff.1 hs).1 hs⟩
    · intro b hb
      unfold L.ref16_order.J5 L.ref16_order.J4
      refine Ok.iteB (fun h => .pure (.inr ⟨k, rfl, hb ?_⟩)) fun _ => .pure hst
      simp at h; exact h.1
  · intro k hk
    unfold L.ref16_order.J2
    refine Ok.iteD (fun _ => .pure fun hl => ?_) fun h0 => ?_
    · dsimp only at hl
      have hall := cnt_full (l := there) (by omega)
      refine acyc_of_rank rank fun i s r f t hs hr hr0 hf ht htl => (i4 i s r f t hs hr hr0 hf ht ?_).2
      have : there[t]? = some there[t] := List.getElem?_eq_getElem (by omega)
      cases hb : there[t] with
      | true => rw [this, hb]
      | false => exact absurd (by rw [this, hb]) (hall t)
    · rcases hk with rfl | ⟨j, rfl, hj1, hj2⟩
      · exact absurd (by decide) h0
      have hjl := (List.getElem?_eq_some_iff.1 hj1).1
      refine .bind' (.app (by simp; omega) (.bind' (.eq (ix_nat hj1) (.pure ?_))))
      have hcs := cnt_set hj1
      have hcl := cnt_le (there.set j true)
      simp at hcl
      refine ⟨⟨by simp [i1], by simp [hcs, i2], fun k => if k = j then out.length else rank k, fun k hk => ?_, fun i s r f t hs hr hr0 hf ht htt => ?_⟩, by dsimp only; omega⟩
      · dsimp only at hk ⊢
        rw [List.length_append]
        split
        · simp
        · rename_i hne
          rw [List.getElem?_set_ne (Ne.symm hne)] at hk
          have := i3 k hk
          simp; omega
      · dsimp only at htt ⊢
        have up : ∀ f : Nat, there[f]? = some true → (there.set j true)[f]? = some true ∧ f ≠ j := by
          intro f hf
          have hne : f ≠ j := by rintro rfl; rw [hj1] at hf; cases hf
          exact ⟨by rw [List.getElem?_set_ne (Ne.symm hne)]; exact hf, hne⟩
        by_cases htj : t = j
        · subst htj
          have := hj2 i s r f hs hr hr0 hf ht
          obtain ⟨u1, u2⟩ := up f this
          rw [if_neg u2, if_pos rfl]
          exact ⟨u1, i3 f this⟩
        · rw [List.getElem?_set_ne (Ne.symm htj)] at htt
          obtain ⟨q1, q2⟩ := i4 i s r f t hs hr hr0 hf ht htt
          obtain ⟨u1, u2⟩ := up f q1
          rw [if_neg u2, if_neg htj]
          exact ⟨u1, q2⟩

theorem dot_zero_w : ∀ {w l : List Int}, (∀ x, x ∈ w → x = 0) → dot w l = 0
  | [], _, _ => rfl
  | _ :: _, [], _ => rfl
  | a :: w, x :: l, h => by simp only [dot]; rw [h a (by simp), dot_zero_w fun y hy => h y (by simp [hy])]; omega

theorem check16_ok {n : Network} (hn : NetOk n) {p : Plan} : Ok (L.ref16_Check n p) fun r => r = 0 → FlowOk n p := by
  have h1 := hn.nodes; have h2 := hn.segs1; have h3 := hn.ports1
  unfold L.ref16_Check
  refine .bind (ref12Check_ok hn) fun r5 _ => Ok.iteU (fun h => .pure fun h' => absurd h' h) fun _ => Ok.iteB (fun _ => .pure fun h => by cases h) fun hl => ?_
  simp at hl
  obtain ⟨l1, l2, l3⟩ := hl
  refine .bind' (.forL (fun k _ => ∀ (j : Nat) (r : Int) (s : Segment), j < k → p.Rates[j]? = some r → n.Segments[j]? = some s → -1000 ≤ r ∧ r ≤ 1000 ∧ -s.Capacity ≤ r ∧ r ≤ s.Capacity) (fun r => r ≠ 0) (fun j r s h => absurd h (Nat.not_lt_zero _)) ?_ ?_ fun b hb => .pure fun h => absurd h hb)
  · intro k r _ hr hi
    have hkl := (List.getElem?_eq_some_iff.1 hr).1
    have hs : n.Segments[k]? = some n.Segments[k] := List.getElem?_eq_getElem (by omega)
    have hc := (hn.segs k _ hs).cap
    unfold L.ref16_Check.B6
    refine .bind' (.eq (ix_nat hs) (Ok.iteB (fun _ => .pure (show (1 : Int) ≠ 0 by decide)) fun hb => .pure fun j r' s hj hr' hs' => ?_))
    by_cases hjk : j = k
    · subst hjk
      rw [hr] at hr'; rw [hs] at hs'
      simp at hr' hs'
      subst hr'; subst hs'
      dsimp only at hb
      rw [wr_id (by omega)] at hb
      simp at hb
      omega
    · exact hi j r' s (by omega) hr' hs'
  intro _ hrng
  simp only [Sum.elim_inl]
  have hrr : ∀ (k : Nat) (r : Int), p.Rates[k]? = some r → -1000 ≤ r ∧ r ≤ 1000 := fun k r hr => by
    have hkl := (List.getElem?_eq_some_iff.1 hr).1
    have hs : n.Segments[k]? = some (n.Segments[k]'(by omega)) := List.getElem?_eq_getElem _
    have := hrng k r _ (by omega) hr hs
    omega
  unfold L.ref16_Check.J1
  refine .bind' (.forL (fun k _ => ∀ (j : Nat) (x : Int), j < k → p.Ports[j]? = some x → -1000 ≤ x ∧ x ≤ 1000) (fun r => r ≠ 0) (fun j r h => absurd h (Nat.not_lt_zero _)) ?_ ?_ fun b hb => .pure fun h => absurd h hb)
  · intro k x _ hx hi
    unfold L.ref16_Check.B5
    refine Ok.iteB (fun _ => .pure (show (1 : Int) ≠ 0 by decide)) fun hb => .pure fun j x' hj hx' => ?_
    by_cases hjk : j = k
    · subst hjk
      rw [hx] at hx'; simp at hx'; subst hx'
      simp at hb; omega
    · exact hi j x' (by omega) hx'
  intro _ hprt
  simp only [Sum.elim_inl]
  have hpp : ∀ (k : Nat) (x : Int), p.Ports[k]? = some x → -1000 ≤ x ∧ x ≤ 1000 := fun k x hx => hprt k x (List.getElem?_eq_some_iff.1 hx).1 hx
  unfold L.ref16_Check.J2
  refine .bind' (.forL (fun k _ => ∀ v : Nat, v < k → dot (wt n v) p.Rates + dot (wp n v) p.Ports = 0) (fun r => r ≠ 0) (fun j h => absurd h (Nat.not_lt_zero _)) ?_ ?_ fun b hb => .pure fun h => absurd h hb)
  · intro k x _ hx hi
    unfold L.ref16_Check.B4
    refine .bind (sums16_ok hn (by omega) (by omega) hrr hpp k) fun r hr => Ok.iteU (fun _ => .pure (show (12 : Int) ≠ 0 by decide)) fun he => .pure fun v hv => ?_
    by_cases hvk : v = k
    · subst hvk; omega
    · exact hi v (by omega)
  intro _ hbal
  simp only [Sum.elim_inl]
  unfold L.ref16_Check.J3
  refine .bind (order16_ok hn (by omega)) fun r hr => Ok.iteU (fun _ => .pure fun h => by cases h) fun he => .pure fun _ => ?_
  refine ⟨by omega, by omega, by omega, fun k r s hr hs => hrng k r s (List.getElem?_eq_some_iff.1 hr).1 hr hs, hpp, fun v hv => ?_, hr (by omega)⟩
  by_cases hvn : v < n.Nodes.length
  · exact hbal v hvn
  · rw [dot_zero_w, dot_zero_w]; rfl
    · intro x hx
      obtain ⟨k, hk⟩ := List.getElem?_of_mem hx
      unfold wp at hk
      rw [List.getElem?_map] at hk
      obtain ⟨s, hs, rfl⟩ := Option.map_eq_some_iff.1 hk
      have := (hn.ports k s hs).node
      exact ind_ne (by omega)
    · intro x hx
      obtain ⟨k, hk⟩ := List.getElem?_of_mem hx
      unfold wt at hk
      rw [List.getElem?_map] at hk
      obtain ⟨s, hs, rfl⟩ := Option.map_eq_some_iff.1 hk
      have := (hn.segs k s hs).ends
      rw [ind_ne (a := s.To) (by omega), ind_ne (a := s.From) (by omega)]; rfl

end Go.Proofs.Ytndfiddakngjdaa
