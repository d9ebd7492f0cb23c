/- What a segment and its fill give: no fault, the breaks, and the parts between them. No condition. -/
import Derived.Test.YtncfbhnecmnfpaaGreatDoorG2
namespace Go.Proofs.YtncfbhnecmnfpaaGreatDoor
set_option linter.unusedVariables false
set_option linter.unusedSimpArgs false
open Go.Aw

theorem nameOk112 {k : Nat} (hk : k < 26) : L.lines_Name (nm 112 k) = some true := by
  rcases lt26 hk with rfl | rfl | rfl | rfl | rfl | rfl | rfl | rfl | rfl | rfl | rfl | rfl | rfl | rfl | rfl | rfl | rfl | rfl | rfl | rfl | rfl | rfl | rfl | rfl | rfl | rfl <;> rfl

/-- A segment as the only one of a network. -/
def segNet (s : Segment) : Network := ⟨([(⟨#[97]⟩ : ByteArray), (⟨#[98]⟩ : ByteArray)] : List ByteArray), ([(⟨s.Name, 0, 1, s.Capacity, s.Resist, s.Wave, s.Points⟩ : Segment)] : List Segment), [], [], 0, 0⟩
theorem segNetV {s : Segment} (h : SegG s) : NetV (segNet s) := by
  unfold segNet
  refine ⟨by simp, by simp, fun k x hk => ?_, by simp, by simp, by simp, by simp, by simp, by simp, by simp, fun l hl => ?_⟩
  · match k, hk with
    | 0, hk => simp at hk; subst hk; exact ⟨h.name, by simp, h.cap, h.resist, h.wave, h.points⟩
    | k + 1, hk => simp at hk
  · simp only [List.map_cons, List.map_nil, List.mem_cons, List.not_mem_nil, or_false] at hl
    rcases hl with rfl | rfl | rfl | rfl
    · refine ⟨by simp, fun k x hk => ?_, fun i j x y hi hj he => ?_⟩
      · match k, hk with
        | 0, hk => simp at hk; subst hk; rfl
        | 1, hk => simp at hk; subst hk; rfl
        | k + 2, hk => simp at hk
      · match i, j, hi, hj with
        | 0, 0, _, _ => rfl
        | 1, 1, _, _ => rfl
        | 0, 1, hi, hj => simp at hi hj; subst hi; subst hj; exact absurd he (by decide +kernel)
        | 1, 0, hi, hj => simp at hi hj; subst hi; subst hj; exact absurd he (by decide +kernel)
        | i + 2, _, hi, _ => simp at hi
        | 0, j + 2, _, hj => simp at hj
        | 1, j + 2, _, hj => simp at hj
    · have hn := h.name
      refine ⟨by simp, fun k x hk => ?_, fun i j x y hi hj he => ?_⟩
      · match k, hk with
        | 0, hk => simp at hk; subst hk; rw [hn]; exact nameOk (by simp) (by decide)
        | k + 1, hk => simp at hk
      · have hi' := (List.getElem?_eq_some_iff.1 hi).1
        have hj' := (List.getElem?_eq_some_iff.1 hj).1
        simp at hi' hj'; omega
    · exact ⟨by simp, by simp, by simp⟩
    · exact ⟨by simp, by simp, by simp⟩
theorem segCheck {s : Segment} (h : SegG s) : L.gradient_check s = some 0 := by
  have := netCheckV (segNetV h)
  unfold segNet at this
  unfold L.gradient_check
  rw [this]
  rfl

theorem total_ok {f : List Piece} (h1 : f.length ≤ 12) (h2 : ∀ p, p ∈ f → 1 ≤ p.Volume) (h3 : sumV f ≤ 1000000) : L.piece_total f = some (sumV f) := by
  have : Ok (L.piece_total f) fun r => r = sumV f := by
    unfold L.piece_total
    refine .bind (.forS (fun k st => st = sumV (f.take k)) (by simp [sumV]) ?_ fun st h => h) ?_
    · rintro k x _ hx rfl
      unfold L.piece_total.B2
      have := sumV_le_take h2 (k + 1)
      rw [sumV_take hx] at this ⊢
      exact .pure (by rw [wr_id (by omega)])
    · rintro _ rfl
      unfold L.piece_total.J1
      exact .pure (by rw [List.take_of_length_le (Nat.le_refl _)])
  obtain ⟨r, h, rfl⟩ := this
  exact h

theorem pieces_le {cap : Int} {f : List Piece} (h : FillOk cap f) {p : Piece} (hp : p ∈ f) : p.Volume ≤ cap := by
  obtain ⟨k, hk⟩ := List.getElem?_of_mem hp
  have h1 := sumV_take hk
  have h2 := sumV_le_take h.vol k
  have h3 := sumV_le_take h.vol (k + 1)
  have := h.sum
  omega

theorem pieceValid {cap : Int} {f : List Piece} (h : FillOk cap f) (hc : 1 ≤ cap ∧ cap ≤ 1000) : L.piece_Valid f = some true := by
  have hl := h.len; have hs := h.sum
  have : Ok (L.piece_Valid f) fun r => r = true := by
    unfold L.piece_Valid
    refine Ok.iteD (fun h => by omega) fun _ => .bind' (.forL (fun _ _ => True) (fun _ => False) trivial ?_ ?_ fun _ h => h.elim)
    · intro k x _ hx _
      have hm := List.mem_of_getElem? hx
      have h1 := h.vol x hm; have h2 := h.bat x hm; have h3 := pieces_le h hm
      have no : Ok (L.piece_Valid.J3 false) (Sum.elim (fun _ : Unit => True) fun _ : Bool => False) := by
        unfold L.piece_Valid.J3; exact .pure trivial
      unfold L.piece_Valid.B2
      refine Ok.iteN (fun hh => ?_) fun _ => Ok.iteE (fun hh => by omega) fun _ => Ok.iteD (fun h0 => ?_) fun _ => no
      · simp [L.piece_litre] at hh; omega
      · have hkl := (List.getElem?_eq_some_iff.1 hx).1
        have hj : f[k - 1]? = some (f[k - 1]'(by omega)) := List.getElem?_eq_getElem _
        have hne := h.next (k - 1) _ x hj (by rw [show k - 1 + 1 = k by omega]; exact hx)
        rw [show wr ((k : Int) - 1) = ((k - 1 : Nat) : Int) by rw [wr_id (by omega)]; omega]
        refine .bind' (.eq (ix_nat hj) ?_)
        dsimp only
        rw [show (f[k - 1].Batch == x.Batch) = false by simpa using hne]
        exact no
    · intro _ _
      simp only [Sum.elim_inl]
      unfold L.piece_Valid.J1
      refine .bind' (.eq (total_ok hl h.vol (by omega)) (.pure ?_))
      simp; omega
  obtain ⟨r, h, rfl⟩ := this
  exact h

theorem filledOk {s : Segment} {f : List Piece} (hs : SegG s) (hf : FillOk s.Capacity f) : L.gradient_filled s f = some 0 := by
  have hc := hs.cap
  unfold L.gradient_filled L.gradient_filled.J1 L.piece_Volume
  rw [segCheck hs, pieceValid hf hc, total_ok hf.len hf.vol (by have := hf.sum; omega)]
  simp [hf.sum]

theorem indexFunc_api_Product_api_Product {s : List Product} {g : Product → Option Bool} {P : Product → Bool} (hg : ∀ (k : Nat) (x : Product), s[k]? = some x → g x = some (P x)) :
    Ok (L.slices_IndexFunc_api_Product_api_Product s g) fun r => (r = -1 ∧ ∀ (j : Nat) (y : Product), s[j]? = some y → P y = false) ∨ ∃ (k : Nat) (x : Product), r = (k : Int) ∧ s[k]? = some x ∧ P x = true ∧ ∀ (j : Nat) (y : Product), j < k → s[j]? = some y → P y = false := by
  unfold L.slices_IndexFunc_api_Product_api_Product
  refine .bind' (.forL (fun k _ => ∀ (j : Nat) (y : Product), j < k → s[j]? = some y → P y = false) (fun r => ∃ (k : Nat) (x : Product), r = (k : Int) ∧ s[k]? = some x ∧ P x = true ∧ ∀ (j : Nat) (y : Product), j < k → s[j]? = some y → P y = false) (fun j y h => absurd h (Nat.not_lt_zero _)) ?_ ?_ ?_)
  · intro k x _ hx hi
    unfold L.slices_IndexFunc_api_Product_api_Product.B2
    refine .bind' (.eq (hg k x hx) (Ok.iteB (fun hp => .pure ⟨k, x, rfl, hx, hp, hi⟩) fun hp => .pure fun j y hj hy => ?_))
    by_cases h : j < k
    · exact hi j y h hy
    · have : j = k := by omega
      subst this
      rw [hx] at hy; simp at hy; subst hy; exact hp
  · intro _ hi
    simp only [Sum.elim_inl]
    unfold L.slices_IndexFunc_api_Product_api_Product.J1
    exact .pure (.inl ⟨rfl, fun j y hy => hi j y (List.getElem?_eq_some_iff.1 hy).1 hy⟩)
  · intro b hb
    exact .pure (.inr hb)

theorem productsCheck {l : List Product} (h : ProdsOk l) : L.product_Check l = some 0 := by
  have hl := h.len
  have : Ok (L.product_Check l) fun r => r = 0 := by
    unfold L.product_Check
    refine Ok.iteD (fun h => by omega) fun _ => .bind' (.forL (fun _ _ => True) (fun _ => False) trivial ?_ ?_ fun _ h => h.elim)
    · intro k x _ hx _
      have hk := (List.getElem?_eq_some_iff.1 hx).1
      have hp := h.all k x hx
      have d1 := hp.density; have d2 := hp.expansion; have d3 := hp.compress; have d4 := hp.friction
      unfold L.product_Check.B4
      refine .bind (Q := fun r => r = true) ?_ ?_
      · unfold L.product_Valid
        refine .bind' (.forI (fun _ _ => True) (fun _ => False) trivial ?_ ?_ fun _ h => h.elim)
        · intro i _ hi _
          have no : Ok (L.product_Valid.J3 false) (Sum.elim (fun _ : Unit => True) fun _ : Bool => False) := by
            unfold L.product_Valid.J3; exact .pure trivial
          have go : ∀ (a : Int) (b : product_span), ([⟨400, 1200⟩, ⟨0, 2000⟩, ⟨0, 5000⟩, ⟨1, 2000⟩] : List product_span)[i]? = some b → (L.product_numbers x).l[i]? = some a → b.least ≤ a ∧ a ≤ b.most → Ok (L.product_Valid.B2 x i ()) (Sum.elim (fun _ : Unit => True) fun _ : Bool => False) := by
            intro a b h1 h2 h3
            unfold L.product_Valid.B2
            refine .bind' (.eq (ix_nat h1) (.bind' (.eq (ix_nat h2) (Ok.iteD (fun h => by dsimp only at h; omega) fun _ => ?_))))
            dsimp only
            rw [show decide (a > b.most) = false by simp; omega]
            exact no
          match i, hi with
          | 0, _ => exact go x.Density ⟨400, 1200⟩ rfl rfl (by dsimp only; omega)
          | 1, _ => exact go x.Expansion ⟨0, 2000⟩ rfl rfl (by dsimp only; omega)
          | 2, _ => exact go x.Compress ⟨0, 5000⟩ rfl rfl (by dsimp only; omega)
          | 3, _ => exact go x.Friction ⟨1, 2000⟩ rfl rfl (by dsimp only; omega)
          | i + 4, hi => omega
        · intro _ _
          simp only [Sum.elim_inl]
          unfold L.product_Valid.J1
          rw [hp.name, nameOk112 (by omega)]
          exact .bind' (.pure (.pure rfl))
      · rintro _ rfl
        exact Ok.iteN (fun h => by cases h) fun _ => .pure trivial
    · intro _ _
      simp only [Sum.elim_inl]
      unfold L.product_Check.J1
      refine .bind' (.forL (fun _ _ => True) (fun _ => False) trivial ?_ ?_ fun _ h => h.elim)
      · intro k x _ hx _
        have hk := (List.getElem?_eq_some_iff.1 hx).1
        have hp := h.all k x hx
        unfold L.product_Check.B3
        refine .bind (Q := fun r => r = (k : Int)) ?_ ?_
        · unfold L.product_Find
          refine .bind (Q := fun r => r = (k : Int)) ((indexFunc_api_Product_api_Product (P := fun y => L.product_Find_1 y x.Name) fun _ _ _ => rfl).mono ?_) fun r hr => .pure hr
          rintro r (⟨rfl, hh⟩ | ⟨j, y, rfl, hj, he, hlt⟩)
          · have := hh k x hx
            simp only [L.product_Find_1] at this
            rw [sEq_refl] at this; cases this
          · have hjl := (List.getElem?_eq_some_iff.1 hj).1
            simp only [L.product_Find_1] at he
            rw [(h.all j y hj).name, hp.name] at he
            have := nm_inj (by omega) (by omega) he
            omega
        · rintro _ rfl
          exact Ok.iteD (fun h => by omega) fun _ => .pure trivial
      · intro _ _
        simp only [Sum.elim_inl]
        unfold L.product_Check.J2
        exact .pure rfl
  obtain ⟨r, h, rfl⟩ := this
  exact h

end Go.Proofs.YtncfbhnecmnfpaaGreatDoor
