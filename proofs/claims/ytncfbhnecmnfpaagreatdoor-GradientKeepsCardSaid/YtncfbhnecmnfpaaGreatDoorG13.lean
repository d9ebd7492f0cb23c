/- The levels by the reference: the same as those of the code. No condition. -/
import Derived.Test.YtncfbhnecmnfpaaGreatDoorG12
import Derived.Test.YtncfbhnecmnfpaaGreatDoorG11u
namespace Go.Proofs.YtncfbhnecmnfpaaGreatDoor
set_option linter.unusedVariables false
set_option linter.unusedSimpArgs false
open Go.Aw

theorem ref01Up {a b : Int} (hb : 1 ≤ b ∧ b ≤ 1099511627776) (ha : -2305843009213693952 ≤ a ∧ a ≤ 2305843009213693952) : L.ref01_Up a b = some (up a b) := by
  have h := floor_t (a := a) (b := b) (by omega)
  have hd := dn_small (a := a) (b := b) (by omega)
  unfold dn at hd
  have hm0 := Int.emod_nonneg a (by omega : b ≠ 0)
  have hm1 := Int.emod_lt_of_pos a (by omega : 0 < b)
  have : Ok (L.ref01_Up a b) fun r => r = up a b := by
    unfold L.ref01_Up
    refine Ok.iteN (fun h => ?_) fun _ => ?_
    · simp [L.ref01_proper] at h; omega
    refine .bind' (.quo (by omega) (.bind' (.rem (by omega) ?_)))
    unfold up L.ref01_Up.J1
    by_cases hn : a.tmod b < 0
    · have h1 := h.1 hn
      have h2 := Int.lt_tmod_of_pos a (b := b) (by omega)
      refine Ok.iteD (fun hh => by omega) fun _ => .pure ?_
      rw [if_pos (by omega), wr_id (by omega)]; omega
    · have h1 := h.2 hn
      refine Ok.iteD (fun hh => .pure ?_) fun hh => .pure ?_
      · rw [if_pos (by omega), wr_id (x := a.tdiv b) (by omega), wr_id (by omega)]; omega
      · rw [if_neg (by omega), wr_id (by omega)]; omega
  obtain ⟨r, h, rfl⟩ := this
  exact h
theorem ref01Down {a b : Int} (hb : 1 ≤ b ∧ b ≤ 1099511627776) (ha : -2305843009213693952 ≤ a ∧ a ≤ 2305843009213693952) : L.ref01_Down a b = some (dn a b) := by
  have h := floor_t (a := a) (b := b) (by omega)
  have hd := dn_small (a := a) (b := b) (by omega)
  unfold dn at hd
  have : Ok (L.ref01_Down a b) fun r => r = dn a b := by
    unfold L.ref01_Down
    refine Ok.iteN (fun h => ?_) fun _ => ?_
    · simp [L.ref01_proper] at h; omega
    refine .bind' (.quo (by omega) (.bind' (.rem (by omega) ?_)))
    unfold dn L.ref01_Down.J1
    by_cases hn : a.tmod b < 0
    · have h1 := h.1 hn
      refine Ok.iteD (fun hh => .pure ?_) fun hh => by omega
      rw [wr_id (x := a.tdiv b) (by omega), wr_id (by omega)]; omega
    · have h1 := h.2 hn
      refine Ok.iteD (fun hh => by omega) fun hh => .pure ?_
      rw [wr_id (by omega)]; omega
  obtain ⟨r, h, rfl⟩ := this
  exact h

/-! ### Breaks -/

theorem add_ok {l : List Int} (hl : l.Pairwise (· < ·)) (h1 : l.length ≤ 1000) (n : Int) : Ok (L.ref19_add l n) fun r => r.Pairwise (· < ·) ∧ (∀ x, x ∈ r ↔ x ∈ l ∨ x = n) ∧ r.length ≤ l.length + 1 := by
  unfold L.ref19_add
  refine .bind (Q := fun d : Int => ∃ k : Nat, d = (k : Int) ∧ k ≤ l.length ∧ (∀ j x, j < k → l[j]? = some x → x < n) ∧ ∀ x, l[k]? = some x → n ≤ x) ?_ ?_
  · refine .loop (fun st : Int => ∃ k : Nat, st = (k : Int) ∧ k ≤ l.length ∧ ∀ j x, j < k → l[j]? = some x → x < n) (fun st => l.length - st.toNat) ⟨0, rfl, by omega, by omega⟩ (by omega) ?_
    rintro _ ⟨k, rfl, hk, hI⟩
    unfold L.ref19_add.B4 L.ref19_add.J5
    refine Ok.iteD (fun hlt => .bind' (.ix k rfl (by omega) ?_)) fun hn => ?_
    · have hx : l[k]? = some (l[k]'(by omega)) := List.getElem?_eq_getElem _
      refine Ok.iteD (fun hh => .pure ⟨⟨k + 1, ?_, by omega, fun j x hj hx' => ?_⟩, ?_⟩) fun hh => .pure ⟨k, rfl, hk, hI, fun x hx' => ?_⟩
      · rw [wr_id (by omega)]; omega
      · by_cases hjk : j = k
        · subst hjk; rw [hx] at hx'; cases hx'; exact hh
        · exact hI j x (by omega) hx'
      · rw [wr_id (by omega)]; omega
      · rw [hx] at hx'; cases hx'
        dsimp only at hh; omega
    · refine Ok.iteB (fun h => by cases h) fun _ => .pure ⟨k, rfl, hk, hI, fun x hx' => ?_⟩
      have := (List.getElem?_eq_some_iff.1 hx').1; omega
  · rintro _ ⟨k, rfl, hk, hI, hJ⟩
    have fin : (∀ x, l[k]? = some x → x ≠ n) → Ok (L.ref19_add.J2 l n (k : Int) false) fun r => r.Pairwise (· < ·) ∧ (∀ x, x ∈ r ↔ x ∈ l ∨ x = n) ∧ r.length ≤ l.length + 1 := by
      intro hne
      unfold L.ref19_add.J2
      refine Ok.iteB (fun h => by cases h) fun _ => .bind' (.sub 0 k rfl rfl (by omega) hk (.bind' (.app (by simp; omega) (.bind' (.app (by simp; omega) (.bind' (.sub k l.length rfl rfl hk (Nat.le_refl _) (.bind' (.app (by simp; omega) ?_)))))))))
      unfold L.ref19_add.J3
      simp only [List.drop_zero, Nat.sub_zero, List.nil_append]
      rw [List.take_of_length_le (l := l.drop k) (by simp)]
      have hlow : ∀ x, x ∈ l.take k → x < n := fun x hx => by
        obtain ⟨j, hj⟩ := List.getElem?_of_mem hx
        have hjl := (List.getElem?_eq_some_iff.1 hj).1
        simp at hjl
        rw [List.getElem?_take_of_lt (by omega)] at hj
        exact hI j x (by omega) hj
      have hhigh : ∀ x, x ∈ l.drop k → n < x := fun x hx => by
        obtain ⟨j, hj⟩ := List.getElem?_of_mem hx
        rw [List.getElem?_drop] at hj
        have hjl := (List.getElem?_eq_some_iff.1 hj).1
        have hk' : l[k]? = some (l[k]'(by omega)) := List.getElem?_eq_getElem _
        have h1 := hJ _ hk'
        have h2 := hne _ hk'
        rcases Nat.eq_zero_or_pos j with rfl | hj0
        · simp at hj; rw [hk'] at hj; cases hj; omega
        · have := up_get hl (show k < k + j by omega) hk' hj
          omega
      refine .pure ⟨?_, fun x => ?_, by simp; omega⟩
      · rw [List.append_assoc, List.pairwise_append]
        refine ⟨hl.sublist (List.take_sublist _ _), ?_, fun x hx y hy => ?_⟩
        · rw [List.singleton_append, List.pairwise_cons]
          exact ⟨hhigh, hl.sublist (List.drop_sublist _ _)⟩
        · have := hlow x hx
          rcases List.mem_cons.1 hy with rfl | hy
          · exact this
          · have := hhigh y hy; omega
      · have : x ∈ l ↔ x ∈ l.take k ∨ x ∈ l.drop k := by rw [← List.mem_append, List.take_append_drop]
        simp only [List.mem_append, List.mem_cons, List.not_mem_nil, or_false]
        rw [this]
        constructor
        · rintro ((h | h) | h)
          · exact .inl (.inl h)
          · exact .inr h
          · exact .inl (.inr h)
        · rintro ((h | h) | h)
          · exact .inl (.inl h)
          · exact .inr h
          · exact .inl (.inr h)
    unfold L.ref19_add.J1
    refine Ok.iteD (fun hlt => .bind' (.ix k rfl (by omega) ?_)) fun hn => fin fun x hx => by have := (List.getElem?_eq_some_iff.1 hx).1; omega
    have hx : l[k]? = some (l[k]'(by omega)) := List.getElem?_eq_getElem _
    dsimp only
    by_cases he : l[k] = n
    · rw [show (l[k] == n) = true by simpa using he]
      unfold L.ref19_add.J2
      refine Ok.iteB (fun _ => .pure ⟨hl, fun x => ⟨.inl, fun h => ?_⟩, by omega⟩) fun h => by cases h
      rcases h with h | rfl
      · exact h
      · exact he ▸ List.mem_of_getElem? hx
    · rw [show (l[k] == n) = false by simpa using he]
      exact fin fun x hx' => by rw [hx] at hx'; cases hx'; exact he

theorem ref19Breaks {s : Segment} {f : List Piece} (h1 : s.Points.length ≤ 100) (h2 : f.length ≤ 12) (h3 : ∀ p, p ∈ f → 1 ≤ p.Volume) (h4 : sumV f ≤ 1000000) : L.ref19_breaks s f = some (brk s f) := by
  have : Ok (L.ref19_breaks s f) fun r => r = brk s f := by
    unfold L.ref19_breaks
    refine .bind (.forS (fun k st => st.Pairwise (· < ·) ∧ (∀ x, x ∈ st ↔ ∃ p, p ∈ s.Points.take k ∧ p.At = x) ∧ st.length ≤ k) ⟨.nil, by simp, by simp⟩ ?_ fun st h => h) ?_
    · rintro k p st hp ⟨i1, i2, i3⟩
      have hk := (List.getElem?_eq_some_iff.1 hp).1
      unfold L.ref19_breaks.B4
      refine .bind (add_ok i1 (by omega) p.At) ?_
      rintro r ⟨r1, r2, r3⟩
      refine .pure ⟨r1, fun x => ?_, by omega⟩
      rw [r2, i2, List.take_add_one, hp]
      simp only [Option.toList_some, List.mem_append, List.mem_cons, List.not_mem_nil, or_false]
      constructor
      · rintro (⟨q, hq, rfl⟩ | rfl)
        · exact ⟨q, .inl hq, rfl⟩
        · exact ⟨p, .inr rfl, rfl⟩
      · rintro ⟨q, hq | rfl, rfl⟩
        · exact .inl ⟨q, hq, rfl⟩
        · exact .inr rfl
    · rintro out ⟨o1, o2, o3⟩
      rw [List.take_of_length_le (Nat.le_refl _)] at o2
      unfold L.ref19_breaks.J1
      refine .bind (.forS (fun k st => st.1.Pairwise (· < ·) ∧ (∀ x, x ∈ st.1 ↔ (∃ p, p ∈ s.Points ∧ p.At = x) ∨ ∃ j, j < k ∧ x = sumV (f.take (j + 1))) ∧ st.1.length ≤ s.Points.length + k ∧ st.2 = sumV (f.take k)) ⟨o1, by simpa using o2, by simpa using o3, by simp [sumV]⟩ ?_ fun st h => h) ?_
      · rintro k p ⟨st, at_⟩ hp ⟨i1, i2, i3, i4⟩
        dsimp only at i1 i2 i3 i4
        subst i4
        have hk := (List.getElem?_eq_some_iff.1 hp).1
        have e := sumV_take hp
        have b := sumV_le_take h3 (k + 1)
        unfold L.ref19_breaks.B3
        dsimp only
        rw [wr_id (by omega), ← e]
        refine .bind (add_ok i1 (by omega) _) ?_
        rintro r ⟨r1, r2, r3⟩
        refine .pure ⟨r1, fun x => ?_, by dsimp only; omega, rfl⟩
        dsimp only
        rw [r2, i2]
        constructor
        · rintro ((h | ⟨j, hj, rfl⟩) | rfl)
          · exact .inl h
          · exact .inr ⟨j, by omega, rfl⟩
          · exact .inr ⟨k, by omega, rfl⟩
        · rintro (h | ⟨j, hj, rfl⟩)
          · exact .inl (.inl h)
          · by_cases hjk : j = k
            · subst hjk; exact .inr rfl
            · exact .inl (.inr ⟨j, by omega, rfl⟩)
      · rintro ⟨st, at_⟩ ⟨i1, i2, i3, i4⟩
        unfold L.ref19_breaks.J2
        refine .pure (up_uniq i1 (brk_up s f) fun x => ?_)
        rw [brk_mem]; exact i2 x
  obtain ⟨r, h, rfl⟩ := this
  exact h

/-! ### Parts -/

theorem brk_prev {s : Segment} {f : List Piece} {i : Nat} {a b x : Int} (h1 : (brk s f)[i]? = some a) (h2 : (brk s f)[i + 1]? = some b) (hx : x ∈ brk s f) (hb : x < b) : x ≤ a := by
  obtain ⟨j, hj⟩ := List.getElem?_of_mem hx
  rcases Nat.lt_trichotomy j i with h | h | h
  · have := up_get (brk_up s f) h hj h1; omega
  · subst h; rw [hj] at h1; cases h1; omega
  · rcases Nat.lt_or_ge (i + 1) j with h' | h'
    · have := up_get (brk_up s f) h' h2 hj; omega
    · have : j = i + 1 := by omega
      subst this
      rw [hj] at h2; cases h2; omega

theorem at14 {cap : Int} {f : List Piece} (hf : FillOk cap f) (hc : 1 ≤ cap ∧ cap ≤ 1000) {a : Int} {k : Nat} {x : Piece} (hx : f[k]? = some x) (h1 : 0 ≤ a) (h2 : sumV (f.take k) ≤ a) (h3 : a < sumV (f.take (k + 1))) : L.ref14_At f a = some x.Batch := by
  have : Ok (L.ref14_At f a) fun r => r = x.Batch := by
    unfold L.ref14_At
    rw [ref14Valid hf hc]
    refine .bind' (.pure (Ok.iteN (fun h => by cases h) fun _ => ?_))
    rw [show decide (a < 0) = false by simp; omega]
    unfold L.ref14_At.J1
    refine Ok.iteB (fun h => by cases h) fun _ => .bind (Q := Sum.elim (fun _ : Int => False) fun r : Int => r = x.Batch) (.forL (fun j st => j ≤ k ∧ st = a - sumV (f.take j)) (fun r => r = x.Batch) ⟨Nat.zero_le _, by simp [sumV]⟩ ?_ ?_ fun _ h => h) ?_
    · rintro j y _ hy ⟨hj, rfl⟩
      have e := sumV_take hy
      unfold L.ref14_At.B3
      refine Ok.iteD (fun hh => .pure ?_) fun hh => .pure ?_
      · have : j = k := by
          rcases Nat.lt_or_ge j k with hlt | hge
          · have := sumV_mono hf.vol (show j + 1 ≤ k from hlt); omega
          · omega
        subst this
        rw [hx] at hy; cases hy
        rfl
      · have hjk : j ≠ k := by
          rintro rfl
          omega
        have b1 := sumV_le_take hf.vol (j + 1)
        have b2 := hf.sum
        have b3 := sumV_le_take hf.vol (k + 1)
        exact ⟨by omega, by rw [wr_id (by omega)]; omega⟩
    · rintro _ ⟨hk, rfl⟩
      have := (List.getElem?_eq_some_iff.1 hx).1
      omega
    · rintro (_ | r) hr
      · exact hr.elim
      · exact .pure hr
  obtain ⟨r, h, rfl⟩ := this
  exact h

theorem liq_full {f : List Piece} {b : List Batch} {p : List Product} {cap : Int} (hf : FillOk cap f) (hb : BatsOk p.length b) :
    ∃ l, L.gradient_liquids f b p = some (l, 0) ∧ l.length = f.length ∧ (∀ y, y ∈ l → y ∈ p) ∧ ∀ (k : Nat) (x : Piece) (y : Product), f[k]? = some x → l[k]? = some y → ∃ (j : Nat) (c : Batch) (i : Nat), x.Batch = (j : Int) ∧ b[j]? = some c ∧ c.Product = (i : Int) ∧ p[i]? = some y := by
  have : Ok (L.gradient_liquids f b p) fun r => r.2 = 0 ∧ r.1.length = f.length ∧ (∀ y, y ∈ r.1 → y ∈ p) ∧ ∀ (k : Nat) (x : Piece) (y : Product), f[k]? = some x → r.1[k]? = some y → ∃ (j : Nat) (c : Batch) (i : Nat), x.Batch = (j : Int) ∧ b[j]? = some c ∧ c.Product = (i : Int) ∧ p[i]? = some y := by
    have hlen := hf.len
    unfold L.gradient_liquids
    refine .bind' (.forL (fun k st => st.length = k ∧ (∀ y, y ∈ st → y ∈ p) ∧ ∀ (k : Nat) (x : Piece) (y : Product), f[k]? = some x → st[k]? = some y → ∃ (j : Nat) (c : Batch) (i : Nat), x.Batch = (j : Int) ∧ b[j]? = some c ∧ c.Product = (i : Int) ∧ p[i]? = some y) (fun _ => False) ⟨rfl, by simp, by simp⟩ ?_ ?_ fun _ h => h.elim)
    · rintro k x st hx ⟨h1, h2, h3⟩
      have hk := (List.getElem?_eq_some_iff.1 hx).1
      have hbx := hf.bat x (List.mem_of_getElem? hx)
      have hbl := hb.len
      unfold L.gradient_liquids.B2
      refine Ok.iteD (fun h => by omega) fun _ => .bind' (.ix' hbx.1 (by omega) fun j y hj hy => ?_)
      have hy2 := hb.all y (List.mem_of_getElem? hy)
      refine Ok.iteB (fun h => ?_) fun _ => .bind' (.ix' hy2.1 hy2.2 fun i z hi hz => .bind' (.app (by simp; omega) (.pure ⟨by simp [h1], fun w hw => ?_, fun k' x' y' hx' hy' => ?_⟩)))
      · simp at h; omega
      · rcases List.mem_append.1 hw with hw | hw
        · exact h2 w hw
        · simp at hw; subst hw; exact List.mem_of_getElem? hz
      · rw [List.getElem?_append] at hy'
        split at hy'
        · exact h3 k' x' y' hx' hy'
        · rename_i hge
          have := (List.getElem?_eq_some_iff.1 hy').1
          simp at this
          have : k' = st.length := by omega
          subst this
          simp at hy'
          subst h1
          rw [hx] at hx'; cases hx'
          subst hy'
          exact ⟨j, y, i, hj, hy, hi, hz⟩
    · rintro st ⟨h1, h2, h3⟩
      exact .pure ⟨rfl, h1, h2, h3⟩
  obtain ⟨⟨l, e⟩, h, h1, h2, h3, h4⟩ := this
  dsimp only at h1 h2 h3 h4
  subst h1
  exact ⟨l, h, h2, h3, h4⟩

theorem part19 {s : Segment} {f : List Piece} {bs : List Batch} {p l : List Product} {i : Nat} {x : gradient_part} {r a b : Int} (hs : SegG s) (hf : FillOk s.Capacity f)
    (hl : ∀ (k : Nat) (x : Piece) (y : Product), f[k]? = some x → l[k]? = some y → ∃ (j : Nat) (c : Batch) (i : Nat), x.Batch = (j : Int) ∧ bs[j]? = some c ∧ c.Product = (i : Int) ∧ p[i]? = some y)
    (hx : IsPart s f l i x) (hxo : PartOk s x) (ha : (brk s f)[i]? = some a) (hb : (brk s f)[i + 1]? = some b) (hr : -1000 ≤ r ∧ r ≤ 1000) :
    L.ref19_part s f bs p r a b = some (frA s r x, frB s, liA x, liB x) := by
  have hc := hs.cap
  have hpl := hs.points.len
  obtain ⟨a', b', q, u, v, k, y, h1, h2, h3, h4, h5, h6, h7, h8, h9, h10, rfl⟩ := hx
  rw [ha] at h1; cases h1
  rw [hb] at h2; cases h2
  have hfk : f[k]? = some (f[k]'h9) := List.getElem?_eq_getElem _
  obtain ⟨j, c, i', e1, e2, e3, e4⟩ := hl k _ y hfk h10
  have hab := up_get (brk_up s f) (Nat.lt_succ_self i) ha hb
  have har := brk_range hs.points hf (List.mem_of_getElem? ha)
  have hbr := brk_range hs.points hf (List.mem_of_getElem? hb)
  have hua : u.At ≤ a := brk_prev ha hb (brk_mem.2 (.inl ⟨u, List.mem_of_getElem? h3, rfl⟩)) h5
  have hka : sumV (f.take k) ≤ a := by
    rcases Nat.eq_zero_or_pos k with rfl | hk0
    · simp [sumV]; omega
    · exact brk_prev ha hb (brk_mem.2 (.inr ⟨k - 1, by omega, by rw [show k - 1 + 1 = k by omega]⟩)) h7
  have hq : q + 1 < s.Points.length := (List.getElem?_eq_some_iff.1 h4).1
  have huR := hs.points.at_range h3
  have hvR := hs.points.at_range h4
  have hh1 := hs.points.height u (List.mem_of_getElem? h3)
  have hh2 := hs.points.height v (List.mem_of_getElem? h4)
  have fr := hxo.friction; have de := hxo.density
  dsimp only at fr de
  have hlen : wr (b - a) = b - a := wr_id (by omega)
  have m1 := mul_bd (a := s.Resist) (b := y.Friction) (A := 1000) (B := 2000) (by have := hs.resist; omega) (by omega)
  have m2 := mul_bd (a := s.Resist * y.Friction) (b := r) (A := 2000000) (B := 1000) (by omega) (by omega)
  have m3 := mul_bd (a := s.Resist * y.Friction * r) (b := r) (A := 2000000000) (B := 1000) (by omega) (by omega)
  have m4 := mul_bd (a := s.Resist * y.Friction * r * r) (b := b - a) (A := 2000000000000) (B := 1000) (by omega) (by omega)
  have n1 := mul_bd (a := y.Density * 9807) (b := v.Height - u.Height) (A := 12000000) (B := 5500) (by omega) (by omega)
  have n2 := mul_bd (a := y.Density * 9807 * (v.Height - u.Height)) (b := b - a) (A := 66000000000) (B := 1000) (by omega) (by omega)
  have : Ok (L.ref19_part s f bs p r a b) fun t => t = (frA s r ⟨b - a, v.At - u.At, v.Height - u.Height, y⟩, frB s, liA ⟨b - a, v.At - u.At, v.Height - u.Height, y⟩, liB ⟨b - a, v.At - u.At, v.Height - u.Height, y⟩) := by
    unfold L.ref19_part
    rw [at14 hf hc hfk har.1 hka (by omega), e1]
    refine .bind' (.pure (.bind' (.eq (ix_nat e2) ?_)))
    dsimp only
    rw [e3]
    refine .bind' (.eq (ix_nat e4) (.bind (Q := fun d : Int => d = (q : Int)) ?_ ?_))
    · refine .loop (fun st : Int => ∃ m : Nat, st = (m : Int) ∧ m ≤ q) (fun st => q - st.toNat) ⟨0, rfl, Nat.zero_le _⟩ (by omega) ?_
      rintro _ ⟨m, rfl, hm⟩
      have hw : s.Points[m + 1]? = some (s.Points[m + 1]'(by omega)) := List.getElem?_eq_getElem _
      unfold L.ref19_part.B3
      rw [wr_id (by omega)]
      refine .bind' (.eq (by rw [show (m : Int) + 1 = ((m + 1 : Nat) : Int) by omega]; exact ix_nat hw) ?_)
      dsimp only
      by_cases hmq : m = q
      · subst hmq
        rw [h4] at hw
        rw [← Option.some.inj hw]
        exact Ok.iteD (fun hh => by omega) fun _ => .pure rfl
      · have hle : s.Points[m + 1].At ≤ u.At := by
          rcases Nat.lt_or_ge (m + 1) q with hlt | hge
          · have := hs.points.asc _ _ _ _ hlt hw h3; omega
          · have : m + 1 = q := by omega
            subst this
            rw [h3] at hw; rw [← Option.some.inj hw]; omega
        exact Ok.iteD (fun hh => .pure ⟨⟨m + 1, by omega, by omega⟩, by omega⟩) fun hh => by omega
    · rintro _ rfl
      unfold L.ref19_part.J1
      refine .bind' (.eq (ix_nat h3) ?_)
      rw [wr_id (by omega)]
      refine .bind' (.eq (by rw [show (q : Int) + 1 = ((q + 1 : Nat) : Int) by omega]; exact ix_nat h4) ?_)
      unfold L.ref19_part.J2
      dsimp only
      refine .pure ?_
      unfold frA frB liA liB
      dsimp only
      rw [wr_id (x := b - a) (by omega), wr_id (x := s.Resist * y.Friction) (by omega), wr_id (x := s.Resist * y.Friction * r) (by omega), wr_id (x := s.Resist * y.Friction * r * r) (by omega), wr_id (x := s.Resist * y.Friction * r * r * (b - a)) (by omega),
        wr_id (x := 1000 * s.Capacity) (by omega), wr_id (x := y.Density * 9807) (by omega), wr_id (x := v.Height - u.Height) (by omega), wr_id (x := y.Density * 9807 * (v.Height - u.Height)) (by omega),
        wr_id (x := y.Density * 9807 * (v.Height - u.Height) * (b - a)) (by omega), wr_id (x := v.At - u.At) (by omega), wr_id (x := 1000 * (v.At - u.At)) (by omega)]
  obtain ⟨t, h, rfl⟩ := this
  exact h

/-! ### Levels in the direction of To -/

theorem along19 {s : Segment} {f : List Piece} {bs : List Batch} {p l : List Product} {W : List gradient_part} (hs : SegG s) (hf : FillOk s.Capacity f) (hp : ProdsOk p) (hb : BatsOk p.length bs)
    (hl : ∀ (k : Nat) (x : Piece) (y : Product), f[k]? = some x → l[k]? = some y → ∃ (j : Nat) (c : Batch) (i : Nat), x.Batch = (j : Int) ∧ bs[j]? = some c ∧ c.Product = (i : Int) ∧ p[i]? = some y)
    (hW : Parts s f l W) (hP : ∀ x, x ∈ W → PartOk s x) {r : Int} {b : Bounds} (hr : 1 ≤ r ∧ r ≤ 1000) (hb1 : b.Low ≤ b.High) (hb2 : -1125899906842624 ≤ b.Low) (hb3 : b.High ≤ 1125899906842624) :
    L.ref19_Along s f bs p r b = some (along s f W r b, 0) := by
  have hc := hs.cap
  have hpl := hs.points.len
  have hfl := hf.len
  have hbl := brk_len s f
  have hb2' := brk_two hs.points hc.1 hf
  have hWl := hW.len
  have hprop : L.ref19_Proper b = true := by unfold L.ref19_Proper; simp; omega
  have hcond : ((r == 0) || (decide (r < (-1000)) || (decide (r > 1000) || (!(L.ref19_Proper b))))) = false := by rw [hprop]; simp; omega
  have e0 : along s f W r b = lvls s r b (brk s f) W := by unfold along; rw [if_neg (by omega)]
  have : Ok (L.ref19_Along s f bs p r b) fun t => t = (along s f W r b, 0) := by
    unfold L.ref19_Along
    rw [ref19Fits hs hf, ref04Check hp, ref19Known hf hb, hcond]
    refine .bind' (.pure (Ok.iteU (fun h => absurd rfl h) fun _ => .bind' (.pure (Ok.iteU (fun h => absurd rfl h) fun _ => .bind' (.pure (Ok.iteN (fun h => by cases h) fun _ => Ok.iteB (fun h => by cases h) fun _ => ?_))))))
    rw [ref19Breaks (by omega) hfl hf.vol (by have := hf.sum; omega)]
    refine .bind' (.pure (.bind' (.mk (brk s f).length rfl (by omega) (Ok.iteD (fun _ => ?_) fun h => by omega))))
    have h0 : (brk s f)[0]? = some ((brk s f)[0]'(by omega)) := List.getElem?_eq_getElem _
    have h0' : ix (brk s f) 0 = some (0, (brk s f)[0]'(by omega)) := ix_nat h0
    rw [h0']
    refine .bind' (.pure (.bind' (.ix 0 rfl (by simp; omega) ?_)))
    dsimp only
    refine .bind (Q := fun d => d = lvls s r b (brk s f) W) ?_ (by rintro _ rfl; unfold L.ref19_Along.J4; exact .pure (by rw [e0]))
    refine .loop (fun st : List Level × Int × Int × Int => ∃ k : Nat, st.2.2.2 = ((k + 1 : Nat) : Int) ∧ k + 1 ≤ (brk s f).length ∧ st.2.1 = b.Low - sumBy (hi s r) (W.take k) ∧ st.2.2.1 = b.High - sumBy (lo s r) (W.take k) ∧ st.1.length = (brk s f).length ∧
      ∀ j, j ≤ k → st.1[j]? = some (lvl s r b (brk s f) W j)) (fun st => (brk s f).length - st.2.2.2.toNat) ⟨0, rfl, by omega, by simp [sumBy], by simp [sumBy], by simp, fun j hj => ?_⟩ (by dsimp only; omega) ?_
    · have : j = 0 := by omega
      subst this
      rw [List.getElem?_set_self (by simp; omega)]
      simp [lvl, List.getD, h0, sumBy]
    · rintro ⟨out, low, high, i⟩ ⟨k, h1, h2, h3, h4, h5, h6⟩
      dsimp only at h1 h2 h3 h4 h5 h6 ⊢
      subst h1 h3 h4
      unfold L.ref19_Along.B5
      dsimp only
      refine Ok.iteD (fun hlt => ?_) fun hn => .pure ?_
      · have hkW : k < W.length := by omega
        have hx : W[k]? = some (W[k]'hkW) := List.getElem?_eq_getElem _
        have hm := hP _ (List.mem_of_getElem? hx)
        have ha : (brk s f)[k]? = some ((brk s f)[k]'(by omega)) := List.getElem?_eq_getElem _
        have hbb : (brk s f)[k + 1]? = some ((brk s f)[k + 1]'(by omega)) := List.getElem?_eq_getElem _
        have bd : ∀ x, x ∈ W.take (k + 1) → PartOk s x := fun x hx => hP x (List.mem_of_mem_take hx)
        have s1 := sumBy_bd (g := lo s r) (B := 3000000000000000) (l := W.take (k + 1)) fun x hx => (lo_bd hc.1 hs.resist hr (bd x hx)).1
        have s2 := sumBy_bd (g := hi s r) (B := 3000000000000000) (l := W.take (k + 1)) fun x hx => (lo_bd hc.1 hs.resist hr (bd x hx)).2
        have t1 := sumBy_take (lo s r) hx
        have t2 := sumBy_take (hi s r) hx
        simp only [List.length_take] at s1 s2
        have fA := frA_bd hs.resist hr hm
        have lA := liA_bd hm
        have hw := hm.width
        have b1 : 1 ≤ frB s ∧ frB s ≤ 1099511627776 := by unfold frB; omega
        have b2 : 1 ≤ liB (W[k]'hkW) ∧ liB (W[k]'hkW) ≤ 1099511627776 := by unfold liB; omega
        have d1 := dn_small (a := frA s r (W[k]'hkW)) (b := frB s) (by omega)
        have d2 := up_small (a := frA s r (W[k]'hkW)) (b := frB s) (by omega)
        rw [wr_id (x := ((k + 1 : Nat) : Int) - 1) (by omega), show ((k + 1 : Nat) : Int) - 1 = (k : Int) by omega, ix_nat ha, ix_nat hbb]
        simp only [Option.bind_some]
        rw [part19 hs hf hl (hW.all k _ hx) hm ha hbb (by omega)]
        simp only [Option.bind_some]
        rw [ref01Up b1 (by omega), ref01Up b2 (by omega), ref01Down b1 (by omega), ref01Down b2 (by omega)]
        simp only [Option.bind_some]
        have hlo : lo s r (W[k]'hkW) = dn (frA s r (W[k]'hkW)) (frB s) + dn (liA (W[k]'hkW)) (liB (W[k]'hkW)) := rfl
        have hhi : hi s r (W[k]'hkW) = up (frA s r (W[k]'hkW)) (frB s) + up (liA (W[k]'hkW)) (liB (W[k]'hkW)) := rfl
        have s1' := sumBy_bd (g := lo s r) (B := 3000000000000000) (l := W.take k) fun x hx => (lo_bd hc.1 hs.resist hr (hP x (List.mem_of_mem_take hx))).1
        have s2' := sumBy_bd (g := hi s r) (B := 3000000000000000) (l := W.take k) fun x hx => (lo_bd hc.1 hs.resist hr (hP x (List.mem_of_mem_take hx))).2
        simp only [List.length_take] at s1' s2'
        refine .bind' (.ix (k + 1) rfl (by omega) (.pure ⟨⟨k + 1, ?_, by omega, ?_, ?_, by simp [h5], fun j hj => ?_⟩, ?_⟩))
        · dsimp only; rw [wr_id (by omega)]; omega
        · dsimp only; rw [t2, hhi, wr_id (x := b.Low - sumBy (hi s r) (W.take k) - up (frA s r (W[k]'hkW)) (frB s)) (by omega), wr_id (by omega)]; omega
        · dsimp only; rw [t1, hlo, wr_id (x := b.High - sumBy (lo s r) (W.take k) - dn (frA s r (W[k]'hkW)) (frB s)) (by omega), wr_id (by omega)]; omega
        · dsimp only
          by_cases hjk : j = k + 1
          · subst hjk
            rw [List.getElem?_set_self (by omega)]
            simp only [lvl, List.getD, hbb, Option.getD_some, t1, t2]
            rw [hlo, hhi, wr_id (x := b.Low - sumBy (hi s r) (W.take k) - up (frA s r (W[k]'hkW)) (frB s)) (by omega), wr_id (x := b.Low - sumBy (hi s r) (W.take k) - up (frA s r (W[k]'hkW)) (frB s) - _) (by omega),
              wr_id (x := b.High - sumBy (lo s r) (W.take k) - dn (frA s r (W[k]'hkW)) (frB s)) (by omega), wr_id (by omega)]
            congr 3 <;> omega
          · rw [List.getElem?_set_ne (by omega)]
            exact h6 j (by omega)
        · dsimp only; rw [wr_id (by omega)]; omega
      · have hk : k + 1 = (brk s f).length := by omega
        apply List.ext_getElem?
        intro j
        by_cases hj : j < (brk s f).length
        · rw [h6 j (by omega), lvls_get _ _ _ _ hj]
        · rw [List.getElem?_eq_none (by omega), List.getElem?_eq_none (by rw [lvls_len]; omega)]
  obtain ⟨t, h, rfl⟩ := this
  exact h

end Go.Proofs.YtncfbhnecmnfpaaGreatDoor
