/- The parts of a segment with a fill, their losses, and the levels along it. No condition. -/
import Derived.Test.YtncfbhnecmnfpaaGreatDoorG5
namespace Go.Proofs.YtncfbhnecmnfpaaGreatDoor
set_option linter.unusedVariables false
set_option linter.unusedSimpArgs false
open Go.Aw

theorem rdiv_ok {a b : Int} (hb : 1 ≤ b ∧ b ≤ 1099511627776) (ha : -2305843009213693952 ≤ a ∧ a ≤ 2305843009213693952) : L.round_divide a b = some (a / b, a % b, true) := by
  have h := floor_t (a := a) (b := b) (by omega)
  have hd := dn_small (a := a) (b := b) (by omega)
  unfold dn at hd
  have hm0 := Int.emod_nonneg a (by omega : b ≠ 0)
  have hm1 := Int.emod_lt_of_pos a (by omega : 0 < b)
  have : Ok (L.round_divide a b) fun r => r = (a / b, a % b, true) := by
    unfold L.round_divide
    refine Ok.iteB (fun h => ?_) fun _ => ?_
    · simp at h; omega
    refine .bind' (.quo (by omega) (.bind' (.rem (by omega) (Ok.iteD (fun hn => ?_) fun hn => ?_))))
    · have h1 := h.1 hn
      unfold L.round_divide.J1
      rw [wr_id (x := a.tdiv b) (by omega), wr_id (by omega), wr_id (by omega)]
      exact .pure (by rw [h1.1, h1.2])
    · have h1 := h.2 hn
      unfold L.round_divide.J1
      rw [wr_id (x := a.tdiv b) (by omega)]
      exact .pure (by rw [h1.1, h1.2])
  obtain ⟨r, h, rfl⟩ := this
  exact h
theorem down_ok {a b : Int} (hb : 1 ≤ b ∧ b ≤ 1099511627776) (ha : -2305843009213693952 ≤ a ∧ a ≤ 2305843009213693952) : L.round_Down a b = some (dn a b) := by
  unfold L.round_Down; rw [rdiv_ok hb ha]; rfl
theorem up_ok {a b : Int} (hb : 1 ≤ b ∧ b ≤ 1099511627776) (ha : -2305843009213693952 ≤ a ∧ a ≤ 2305843009213693952) : L.round_Up a b = some (up a b) := by
  have hd := dn_small (a := a) (b := b) (by omega)
  unfold dn at hd
  unfold L.round_Up
  rw [rdiv_ok hb ha]
  simp only [Option.bind_some, Bool.true_and, decide_eq_true_eq, gt_iff_lt, L.round_Up.J1]
  unfold up
  split
  · rw [wr_id (by omega)]
  · rfl

theorem loss_ok {s : Segment} {q : Int} {x : gradient_part} (hc : 1 ≤ s.Capacity ∧ s.Capacity ≤ 1000) (hr : 0 ≤ s.Resist ∧ s.Resist ≤ 1000) (hq : 1 ≤ q ∧ q ≤ 1000) (hx : PartOk s x) :
    L.gradient_part_loss x s q = some (lo s q x, hi s q x) := by
  have f := frA_bd hr hq hx
  have l := liA_bd hx
  have w := hx.width
  have b := lo_bd hc.1 hr hq hx
  have e1 : wr ((wr ((wr ((wr (s.Resist * x.liquid.Friction)) * q)) * q)) * x.length) = frA s q x := by
    rw [wr_id (x := s.Resist * x.liquid.Friction) (by omega), wr_id (x := s.Resist * x.liquid.Friction * q) (by omega), wr_id (x := s.Resist * x.liquid.Friction * q * q) (by omega)]
    exact wr_id (x := frA s q x) (by omega)
  have e2 : wr ((wr ((wr (x.liquid.Density * 9807)) * x.height)) * x.length) = liA x := by
    rw [wr_id (x := x.liquid.Density * 9807) (by omega), wr_id (x := x.liquid.Density * 9807 * x.height) (by omega)]
    exact wr_id (x := liA x) (by omega)
  have e3 : wr (1000 * s.Capacity) = frB s := wr_id (by omega)
  have e4 : wr (1000 * x.width) = liB x := wr_id (by omega)
  have b1 : 1 ≤ frB s ∧ frB s ≤ 1099511627776 := by unfold frB; omega
  have b2 : 1 ≤ liB x ∧ liB x ≤ 1099511627776 := by unfold liB; omega
  unfold L.gradient_part_loss
  rw [e1, e2, e3, e4, down_ok b1 (by omega), down_ok b2 (by omega), up_ok b1 (by omega), up_ok b2 (by omega)]
  have e5 : wr (dn (frA s q x) (frB s) + dn (liA x) (liB x)) = lo s q x := wr_id (x := lo s q x) (by omega)
  have e6 : wr (up (frA s q x) (frB s) + up (liA x) (liB x)) = hi s q x := wr_id (x := hi s q x) (by omega)
  simp only [Option.bind_some, e5, e6]

/-! ### Liquids and parts -/

theorem liquids_ok {f : List Piece} {b : List Batch} {p : List Product} {cap : Int} (hf : FillOk cap f) (hb : BatsOk p.length b) : Ok (L.gradient_liquids f b p) fun r => r.2 = 0 ∧ r.1.length = f.length ∧ ∀ y, y ∈ r.1 → y ∈ p := by
  have hlen := hf.len
  unfold L.gradient_liquids
  refine .bind' (.forL (fun k st => st.length = k ∧ ∀ y, y ∈ st → y ∈ p) (fun _ => False) ⟨rfl, by simp⟩ ?_ ?_ fun _ h => h.elim)
  · rintro k x st hx ⟨h1, h2⟩
    have hk := (List.getElem?_eq_some_iff.1 hx).1
    have hbx := hf.bat x (List.mem_of_getElem? hx)
    have hbl := hb.len
    unfold L.gradient_liquids.B2
    refine Ok.iteD (fun h => by omega) fun _ => .bind' (.ix' hbx.1 (by omega) fun j y hj hy => ?_)
    have hy2 := hb.all y (List.mem_of_getElem? hy)
    refine Ok.iteB (fun h => ?_) fun _ => .bind' (.ix' hy2.1 hy2.2 fun i z hi hz => .bind' (.app (by simp; omega) (.pure ⟨by simp [h1], fun w hw => ?_⟩)))
    · simp at h; omega
    · rcases List.mem_append.1 hw with hw | hw
      · exact h2 w hw
      · simp at hw; subst hw; exact List.mem_of_getElem? hz
  · rintro st ⟨h1, h2⟩
    exact .pure ⟨rfl, h1, h2⟩

/-- A part between two breaks. -/
def IsPart (s : Segment) (f : List Piece) (l : List Product) (i : Nat) (x : gradient_part) : Prop :=
  ∃ (a b : Int) (p : Nat) (u v : Point) (k : Nat) (y : Product), (brk s f)[i]? = some a ∧ (brk s f)[i + 1]? = some b ∧ s.Points[p]? = some u ∧ s.Points[p + 1]? = some v ∧ u.At < b ∧ b ≤ v.At ∧
    sumV (f.take k) < b ∧ b ≤ sumV (f.take (k + 1)) ∧ k < f.length ∧ l[k]? = some y ∧ x = ⟨b - a, v.At - u.At, v.Height - u.Height, y⟩
structure Parts (s : Segment) (f : List Piece) (l : List Product) (W : List gradient_part) : Prop where
  len : W.length + 1 = (brk s f).length
  all : ∀ i x, W[i]? = some x → IsPart s f l i x

theorem IsPart.ok {s : Segment} {f : List Piece} {l : List Product} {i : Nat} {x : gradient_part} (hs : SegG s) (hf : FillOk s.Capacity f) (hl : ∀ y, y ∈ l → (400 ≤ y.Density ∧ y.Density ≤ 1200) ∧ 1 ≤ y.Friction ∧ y.Friction ≤ 2000) (h : IsPart s f l i x) : PartOk s x := by
  obtain ⟨a, b, p, u, v, k, y, h1, h2, h3, h4, h5, h6, _, _, _, h7, rfl⟩ := h
  have hc := hs.cap
  have ha := brk_range hs.points hf (List.mem_of_getElem? h1)
  have hb := brk_range hs.points hf (List.mem_of_getElem? h2)
  have hab := up_get (brk_up s f) (Nat.lt_succ_self i) h1 h2
  have hu := hs.points.at_range h3
  have hv := hs.points.at_range h4
  have hh1 := hs.points.height u (List.mem_of_getElem? h3)
  have hh2 := hs.points.height v (List.mem_of_getElem? h4)
  have hy := hl y (List.mem_of_getElem? h7)
  exact ⟨by dsimp only; omega, by dsimp only; omega, by dsimp only; omega, hy.1, hy.2⟩

theorem parts_ok {s : Segment} {f : List Piece} {l : List Product} (hs : SegG s) (hf : FillOk s.Capacity f) (hl : l.length = f.length) : Ok (L.gradient_parts s f l (brk s f)) fun W => Parts s f l W := by
  have hc := hs.cap
  have hp := hs.points
  have hpl := hp.len
  have hfl := hf.len
  have hbl := brk_len s f
  have hb2 := brk_two hp hc.1 hf
  have hf0 : 0 < f.length := by
    rcases Nat.eq_zero_or_pos f.length with h | h
    · have : f = [] := List.eq_nil_of_length_eq_zero h
      subst this
      have := hf.sum
      simp [sumV] at this; omega
    · exact h
  have hg0 : f[0]? = some (f[0]'hf0) := List.getElem?_eq_getElem _
  unfold L.gradient_parts
  refine .bind' (.eq (ix_nat (k := 0) hg0) (.bind (Q := fun W => Parts s f l W) ?_ fun d hd => by unfold L.gradient_parts.J1; exact .pure hd))
  refine .loop (fun st : List gradient_part × Int × Int × Int => ∃ k : Nat, st.2.1 = (k : Int) ∧ k < f.length ∧ st.2.2.1 = sumV (f.take (k + 1)) ∧ st.2.2.2 = ((st.1.length + 1 : Nat) : Int) ∧ st.1.length + 1 ≤ (brk s f).length ∧
      (∀ b, (brk s f)[st.1.length + 1]? = some b → sumV (f.take k) < b) ∧ ∀ i x, st.1[i]? = some x → IsPart s f l i x) (fun st => (brk s f).length - st.1.length)
    ⟨0, rfl, hf0, ?_, rfl, by simp; omega, ?_, by simp⟩ (by dsimp only; simp only [List.length_nil]; omega) ?_
  · dsimp only; rw [sumV_take hg0]; simp [sumV]
  · intro b hb
    have h0 := brk_first hp hf
    have := up_get (brk_up s f) (by simp) h0 hb
    simpa [sumV] using this
  rintro ⟨out, i1, i2, i3⟩ ⟨k, h1, hk, h2, h3, ho, hlow, hall⟩
  dsimp only at h1 h2 h3 ho hlow hall
  subst h1 h2 h3
  unfold L.gradient_parts.B2
  dsimp only
  refine Ok.iteD (fun h => ?_) fun h => .pure ⟨by omega, hall⟩
  have hb : (brk s f)[out.length + 1]? = some ((brk s f)[out.length + 1]'(by omega)) := List.getElem?_eq_getElem _
  obtain ⟨b, hbe⟩ : ∃ b, b = (brk s f)[out.length + 1]'(by omega) := ⟨_, rfl⟩
  rw [← hbe] at hb
  have ha : (brk s f)[out.length]? = some ((brk s f)[out.length]'(by omega)) := List.getElem?_eq_getElem _
  obtain ⟨a, hae⟩ : ∃ a, a = (brk s f)[out.length]'(by omega) := ⟨_, rfl⟩
  rw [← hae] at ha
  have hbr := brk_range hp hf (List.mem_of_getElem? hb)
  have har := brk_range hp hf (List.mem_of_getElem? ha)
  have hab := up_get (brk_up s f) (Nat.lt_succ_self _) ha hb
  refine .bind (Q := fun d : Int × Int => ∃ k' : Nat, d = ((k' : Int), sumV (f.take (k' + 1))) ∧ k' < f.length ∧ sumV (f.take k') < b ∧ b ≤ sumV (f.take (k' + 1))) ?_ ?_
  · refine .loop (fun d : Int × Int => ∃ k' : Nat, d = ((k' : Int), sumV (f.take (k' + 1))) ∧ k' < f.length ∧ sumV (f.take k') < b) (fun d => f.length - d.1.toNat) ⟨k, rfl, hk, hlow b hb⟩ (by dsimp only; omega) ?_
    rintro _ ⟨k', rfl, hk', hl'⟩
    unfold L.gradient_parts.B6
    dsimp only
    refine .bind' (.eq (ix_nat hb) (Ok.iteD (fun h => ?_) fun h => .pure ⟨k', rfl, hk', hl', by omega⟩))
    have hn : k' + 1 < f.length := by
      by_cases hh : k' + 1 < f.length
      · exact hh
      · rw [List.take_of_length_le (by omega), hf.sum] at h; omega
    have hgn : f[k' + 1]? = some (f[k' + 1]'hn) := List.getElem?_eq_getElem _
    have hsn := sumV_take hgn
    have hsr := sumV_le_take hf.vol (k' + 1 + 1)
    have hfs := hf.sum
    rw [show wr ((k' : Int) + 1) = ((k' + 1 : Nat) : Int) by rw [wr_id (by omega)]; omega]
    refine .bind' (.eq (ix_nat hgn) (.pure ⟨⟨k' + 1, ?_, hn, h⟩, ?_⟩))
    · dsimp only; rw [wr_id (by omega), ← hsn]
    · dsimp only; omega
  · rintro _ ⟨k', rfl, hk', hl1, hl2⟩
    unfold L.gradient_parts.J4
    dsimp only
    refine .bind' (.eq (ix_nat hb) ?_)
    refine .bind (section_ok ⟨hpl.1, by omega⟩ hp.asc hp.first (e := b) (by omega) fun p hp' => by have := hp.last p hp'; omega) ?_
    rintro r ⟨p, u, v, rfl, hu, hv, hub, hbv⟩
    have hpl' := (List.getElem?_eq_some_iff.1 hv).1
    have hur := hp.at_range hu
    have hvr := hp.at_range hv
    have hh1 := hp.height u (List.mem_of_getElem? hu)
    have hh2 := hp.height v (List.mem_of_getElem? hv)
    rw [show wr (((p + 1 : Nat) : Int) - 1) = (p : Int) by rw [wr_id (by omega)]; omega]
    refine .bind' (.eq (ix_nat hu) (.bind' (.eq (ix_nat hv) ?_)))
    unfold L.gradient_parts.J5
    dsimp only
    rw [show wr (((out.length + 1 : Nat) : Int) - 1) = (out.length : Int) by rw [wr_id (by omega)]; omega]
    have hly : l[k']? = some (l[k']'(by omega)) := List.getElem?_eq_getElem _
    refine .bind' (.eq (ix_nat ha) (.bind' (.eq (ix_nat hly) (.bind' (.app (by simp; omega) ?_)))))
    unfold L.gradient_parts.J3
    dsimp only
    rw [wr_id (x := b - a) (by omega), wr_id (x := v.At - u.At) (by omega), wr_id (x := v.Height - u.Height) (by omega), wr_id (x := ((out.length + 1 : Nat) : Int) + 1) (by omega)]
    refine .pure ⟨⟨k', rfl, hk', rfl, by simp, by simp; omega, fun b' hb' => ?_, fun i x hx => ?_⟩, ?_⟩
    · simp only [List.length_append, List.length_singleton] at hb'
      have := up_get (brk_up s f) (Nat.lt_succ_self _) hb hb'
      omega
    · rw [List.getElem?_append] at hx
      split at hx
      · exact hall i x hx
      · have hi := (List.getElem?_eq_some_iff.1 hx).1
        simp at hi
        have : i = out.length := by omega
        subst this
        simp at hx
        exact ⟨a, b, p, u, v, k', _, ha, hb, hu, hv, hub, hbv, hl1, hl2, hk', hly, hx.symm⟩
    · dsimp only; simp only [List.length_append, List.length_singleton]; omega

/-! ### Lists the other way round -/

theorem rev_ok {α : Type} {B : List α × Int × Int → Option ((List α × Int × Int) ⊕ List α)}
    (hB : ∀ st, B st = if decide (st.2.1 < st.2.2) = true then Option.bind (ix st.1 st.2.2) fun p59 => Option.bind (ix st.1 st.2.1) fun p61 => Option.bind (ix (st.1.set p61.1 p59.2) st.2.2) fun p63 => some (.inl ((st.1.set p61.1 p59.2).set p63.1 p61.2, wr (st.2.1 + 1), wr (st.2.2 - 1))) else some (.inr st.1))
    {l : List α} (hl : l.length ≤ 1000000) : Option.bind (loopN B lots (l, 0, wr ((l.length : Int) - 1))) (fun d => some d) = some l.reverse := by
  have : Ok (loopN B lots (l, 0, wr ((l.length : Int) - 1))) fun r => r = l.reverse := by
    refine .loop (fun st => ∃ i : Nat, st.2.1 = (i : Int) ∧ st.2.2 = (l.length : Int) - 1 - i ∧ 2 * i ≤ l.length ∧ st.1.length = l.length ∧ ∀ k : Nat, k < l.length → st.1[k]? = if k < i ∨ l.length - 1 - i < k then l[l.length - 1 - k]? else l[k]?) (fun st => (st.2.2 - st.2.1 + 1).toNat)
      ⟨0, rfl, by dsimp only; rw [wr_id (by omega)]; omega, by omega, rfl, fun k hk => ?_⟩ (by dsimp only; rw [wr_id (by omega)]; omega) ?_
    · rw [if_neg (by omega)]
    rintro ⟨m, _, _⟩ ⟨i, rfl, rfl, hi, hm, hh⟩
    dsimp only at hm hh
    rw [hB]
    dsimp only
    refine Ok.iteD (fun h => ?_) fun h => .pure ?_
    · have e : (l.length : Int) - 1 - i = ((l.length - 1 - i : Nat) : Int) := by omega
      rw [e]
      have h1 : m[l.length - 1 - i]? = some (m[l.length - 1 - i]'(by omega)) := List.getElem?_eq_getElem _
      have h2 : m[i]? = some (m[i]'(by omega)) := List.getElem?_eq_getElem _
      refine .bind' (.eq (ix_nat h1) (.bind' (.eq (ix_nat h2) ?_)))
      dsimp only
      have h3 : (m.set i (m[l.length - 1 - i]'(by omega)))[l.length - 1 - i]? = some (m[l.length - 1 - i]'(by omega)) := by rw [List.getElem?_set_ne (by omega)]; exact h1
      refine .bind' (.eq (ix_nat h3) (.pure ⟨⟨i + 1, ?_, ?_, by omega, by simp [hm], fun k hk => ?_⟩, ?_⟩))
      · dsimp only; rw [wr_id (by omega)]; omega
      · dsimp only; rw [wr_id (by omega)]; omega
      · dsimp only
        have e1 : m[l.length - 1 - i]? = l[l.length - 1 - i]? := by rw [hh _ (by omega), if_neg (by omega)]
        have e2 : m[i]? = l[i]? := by rw [hh _ (by omega), if_neg (by omega)]
        by_cases c1 : k = l.length - 1 - i
        · subst c1
          rw [List.getElem?_set_self (by simp; omega), if_pos (by omega), ← h2, e2]
          congr 1; omega
        · rw [List.getElem?_set_ne (by omega)]
          by_cases c2 : k = i
          · subst c2
            rw [List.getElem?_set_self (by omega), if_pos (by omega), ← h1, e1]
          · rw [List.getElem?_set_ne (by omega), hh k hk]
            by_cases c3 : k < i ∨ l.length - 1 - i < k
            · rw [if_pos c3, if_pos (by omega)]
            · rw [if_neg c3, if_neg (by omega)]
      · dsimp only; rw [wr_id (by omega), wr_id (by omega)]; omega
    · apply List.ext_getElem?
      intro k
      by_cases hk : k < l.length
      · rw [List.getElem?_reverse hk, hh k hk]
        split
        · rfl
        · congr 1; omega
      · rw [List.getElem?_eq_none (by omega), List.getElem?_eq_none (by simp; omega)]
  obtain ⟨r, h, rfl⟩ := this
  rw [h]; rfl
theorem rev_int {l : List Int} (hl : l.length ≤ 1000000) : L.slices_Reverse_int_int l = some l.reverse := rev_ok (B := L.slices_Reverse_int_int.B1) (fun _ => rfl) hl
theorem rev_part {l : List gradient_part} (hl : l.length ≤ 1000000) : L.slices_Reverse_gradient_part_gradient_part l = some l.reverse := rev_ok (B := L.slices_Reverse_gradient_part_gradient_part.B1) (fun _ => rfl) hl
theorem rev_level {l : List Level} (hl : l.length ≤ 1000000) : L.slices_Reverse_api_Level_api_Level l = some l.reverse := rev_ok (B := L.slices_Reverse_api_Level_api_Level.B1) (fun _ => rfl) hl

/-- A list changed place by place. -/
theorem each_ok {α : Type} {B : Nat → List α → Option (List α)} {g : α → α} (l : List α) (hB : ∀ (k : Nat) (m : List α) (x : α), l[k]? = some x → m[k]? = some x → B k m = some (m.set k (g x))) : forJ B 0 l.length l = some (l.map g) := by
  have : Ok (forJ B 0 l.length l) fun r => r = l.map g := by
    refine .forJ (fun k st => st.length = l.length ∧ ∀ j : Nat, st[j]? = if j < k then (l[j]?).map g else l[j]?) ⟨rfl, fun j => by simp⟩ ?_ ?_
    · rintro k st hk ⟨h1, h2⟩
      have hx : l[k]? = some (l[k]'hk) := List.getElem?_eq_getElem _
      have hx' : st[k]? = some (l[k]'hk) := by rw [h2, if_neg (by omega), hx]
      refine .eq (hB k st _ hx hx') ⟨by simp [h1], fun j => ?_⟩
      by_cases hj : j = k
      · subst hj
        rw [List.getElem?_set_self (by omega), if_pos (by omega), hx]; rfl
      · rw [List.getElem?_set_ne (by omega), h2]
        by_cases h3 : j < k
        · rw [if_pos h3, if_pos (by omega)]
        · rw [if_neg h3, if_neg (by omega)]
    · rintro st ⟨h1, h2⟩
      apply List.ext_getElem?
      intro j
      rw [h2, List.getElem?_map]
      split
      · rfl
      · rw [List.getElem?_eq_none (by omega)]; rfl
  obtain ⟨r, h, rfl⟩ := this
  exact h

end Go.Proofs.YtncfbhnecmnfpaaGreatDoor
