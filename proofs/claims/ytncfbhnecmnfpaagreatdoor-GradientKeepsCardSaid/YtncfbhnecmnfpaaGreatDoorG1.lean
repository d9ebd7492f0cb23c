/- Division with stated rounding; a sorted list, each number once. No condition. -/
import Derived.Test.YtncfbhnecmnfpaaGreatDoorPlBase
import Derived.Lib.SlicesCompact
namespace Go.Proofs.YtncfbhnecmnfpaaGreatDoor
set_option linter.unusedVariables false
set_option linter.unusedSimpArgs false
open Go.Aw

/-! ### Division -/

theorem floor_of {a b q r : Int} (hb : 0 < b) (h : b * q + r = a) (h0 : 0 ≤ r) (h1 : r < b) : a / b = q ∧ a % b = r :=
  (Int.ediv_emod_unique hb).2 ⟨by omega, h0, h1⟩

theorem floor_t {a b : Int} (hb : 0 < b) : (a.tmod b < 0 → a / b = a.tdiv b - 1 ∧ a % b = a.tmod b + b) ∧ (¬ a.tmod b < 0 → a / b = a.tdiv b ∧ a % b = a.tmod b) := by
  have h := Int.mul_tdiv_add_tmod a b
  have h2 : a.tmod b < b := Int.tmod_lt_of_pos a hb
  have h3 : -b < a.tmod b := by have := Int.lt_tmod_of_pos a hb; exact this
  refine ⟨fun hn => floor_of hb ?_ (by omega) (by omega), fun hn => floor_of hb h (by omega) h2⟩
  rw [Int.mul_sub, Int.mul_one]; omega

/-- Rounded down, and up. -/
def dn (a b : Int) : Int := a / b
def up (a b : Int) : Int := if 0 < a % b then a / b + 1 else a / b

theorem dn_le {a b : Int} (hb : 0 < b) : b * dn a b ≤ a := by
  unfold dn; have := Int.mul_ediv_add_emod a b; have := Int.emod_nonneg a (by omega : b ≠ 0); omega
theorem le_up {a b : Int} (hb : 0 < b) : a ≤ b * up a b := by
  unfold up
  have h1 := Int.mul_ediv_add_emod a b; have h2 := Int.emod_nonneg a (by omega : b ≠ 0); have h3 := Int.emod_lt_of_pos a hb
  split
  · rw [Int.mul_add, Int.mul_one]; omega
  · omega
theorem dn_up {a b : Int} (hb : 0 < b) : dn a b ≤ up a b ∧ up a b ≤ dn a b + 1 := by
  unfold dn up; split <;> omega
theorem dn_mono {a c b : Int} (hb : 0 < b) (h : a ≤ c) : dn a b ≤ dn c b := Int.ediv_le_ediv hb h
theorem up_eq {a b : Int} (hb : 0 < b) : up a b = -((-a) / b) := by
  unfold up
  have h1 := Int.mul_ediv_add_emod a b; have h2 := Int.emod_nonneg a (by omega : b ≠ 0); have h3 := Int.emod_lt_of_pos a hb
  split
  · have := (floor_of (a := -a) (b := b) (q := -(a / b) - 1) (r := b - a % b) hb (by rw [Int.mul_sub, Int.mul_one, Int.mul_neg]; omega) (by omega) (by omega)).1
    omega
  · have := (floor_of (a := -a) (b := b) (q := -(a / b)) (r := 0) hb (by rw [Int.mul_neg]; omega) (by omega) hb).1
    omega
theorem up_mono {a c b : Int} (hb : 0 < b) (h : a ≤ c) : up a b ≤ up c b := by
  rw [up_eq hb, up_eq hb]
  have := Int.ediv_le_ediv hb (show -c ≤ -a by omega)
  omega
theorem dn_zero {b : Int} : dn 0 b = 0 := by unfold dn; simp
theorem up_zero {b : Int} : up 0 b = 0 := by unfold up; simp
theorem dn_neg {a b : Int} (hb : 0 < b) : dn (-a) b = - up a b := by rw [up_eq hb]; unfold dn; omega
theorem up_neg {a b : Int} (hb : 0 < b) : up (-a) b = - dn a b := by rw [up_eq hb]; unfold dn; rw [Int.neg_neg]
theorem dn_nonneg {a b : Int} (hb : 0 < b) (h : 0 ≤ a) : 0 ≤ dn a b := Int.ediv_nonneg h (by omega)
theorem up_nonneg {a b : Int} (hb : 0 < b) (h : 0 ≤ a) : 0 ≤ up a b := by have := dn_nonneg hb h; have := (dn_up (a := a) hb).1; omega
theorem dn_small {a b : Int} (hb : 0 < b) : -(a.natAbs : Int) ≤ dn a b ∧ dn a b ≤ (a.natAbs : Int) := by
  refine ⟨?_, ?_⟩
  · have h : b * (-(a.natAbs : Int)) ≤ a := by
      have h1 : (1 : Int) * a.natAbs ≤ b * a.natAbs := Int.mul_le_mul_of_nonneg_right (by omega) (by omega)
      rw [Int.mul_neg]; omega
    unfold dn
    exact (Int.le_ediv_iff_mul_le hb).2 (by rw [Int.mul_comm]; exact h)
  · unfold dn
    by_cases ha : 0 ≤ a
    · have := Int.ediv_le_self b ha; omega
    · have := Int.ediv_neg_of_neg_of_pos (by omega : a < 0) hb; omega
theorem up_small {a b : Int} (hb : 0 < b) : -(a.natAbs : Int) ≤ up a b ∧ up a b ≤ (a.natAbs : Int) := by
  have h := dn_small (a := -a) hb
  rw [dn_neg hb, Int.natAbs_neg] at h; omega

/-! ### A sorted list, each number once -/

theorem compact_mem' {l : List Int} {x : Int} (h : x ∈ Lib.compact l) : x ∈ l := by
  simp only [Lib.compact, Lib.compactUpTo, List.mem_map, List.mem_filter, List.mem_range] at h
  obtain ⟨i, ⟨hi, _⟩, rfl⟩ := h
  simp [hi]

theorem compact_ix {l : List Int} (h : l.Pairwise (· ≤ ·)) : ∀ (k : Nat) (x : Int), l[k]? = some x → ∃ j, j ≤ k ∧ l[j]? = some x ∧ Lib.keeps l.toArray j = true
  | 0, x, hx => ⟨0, Nat.le_refl _, hx, Lib.keeps_lt_one _ 0 (by omega)⟩
  | k + 1, x, hx => by
    have hk := (List.getElem?_eq_some_iff.1 hx).1
    have hx' : l[k]? = some l[k] := List.getElem?_eq_getElem (by omega)
    by_cases he : x = l[k]
    · obtain ⟨j, h1, h2, h3⟩ := compact_ix h k l[k] hx'
      exact ⟨j, by omega, by rw [he]; exact h2, h3⟩
    · refine ⟨k + 1, Nat.le_refl _, hx, Lib.keeps_pos ?_⟩
      have e1 : l.toArray[k + 1]! = x := by simp [hk, getElem!_pos l (k + 1) hk]; exact (List.getElem?_eq_some_iff.1 hx).2
      have e2 : l.toArray[k + 1 - 1]! = l[k] := by simp [show k < l.length by omega, getElem!_pos l k (by omega)]
      rw [e1, e2]; exact he

theorem compact_mem {l : List Int} (h : l.Pairwise (· ≤ ·)) {x : Int} : x ∈ Lib.compact l ↔ x ∈ l := by
  refine ⟨compact_mem', fun hx => ?_⟩
  obtain ⟨k, hk⟩ := List.getElem?_of_mem hx
  obtain ⟨j, _, h2, h3⟩ := compact_ix h k x hk
  have hj := (List.getElem?_eq_some_iff.1 h2).1
  simp only [Lib.compact, Lib.compactUpTo, List.mem_map, List.mem_filter, List.mem_range]
  refine ⟨j, ⟨hj, h3⟩, ?_⟩
  simp [hj, getElem!_pos l j hj]; exact (List.getElem?_eq_some_iff.1 h2).2

theorem compact_up {l : List Int} (h : l.Pairwise (· ≤ ·)) : (Lib.compact l).Pairwise (· < ·) := by
  unfold Lib.compact Lib.compactUpTo
  have hr : ((List.range l.length).filter (Lib.keeps l.toArray)).Pairwise (· < ·) := List.Pairwise.filter _ List.pairwise_lt_range
  rw [List.pairwise_map]
  refine List.Pairwise.imp_of_mem ?_ hr
  intro i j hi hj hij
  simp only [List.mem_filter, List.mem_range] at hi hj
  have hi1 := hi.1; have hj1 := hj.1
  have e1 : l.toArray[i]! = l[i] := by simp [hi1, getElem!_pos l i hi1]
  have e2 : l.toArray[j]! = l[j] := by simp [hj1, getElem!_pos l j hj1]
  rw [e1, e2]
  have hp := List.pairwise_iff_getElem.1 h
  have hj0 : 0 < j := by omega
  have hne : l[j] ≠ l[j - 1] := by
    intro he
    have : Lib.keeps l.toArray j = false := Lib.keeps_neg hj0 (by
      rw [e2, he]
      simp [show j - 1 < l.length by omega, getElem!_pos l (j - 1) (by omega)])
    rw [this] at hj
    exact absurd hj.2 (by simp)
  have h1 := hp (j - 1) j (by omega) hj1 (by omega)
  by_cases hij' : i = j - 1
  · subst hij'; omega
  · have := hp i (j - 1) (by omega) (by omega) (by omega)
    omega

def asc (l : List Int) : List Int := Lib.compact (l.mergeSort fun x y => decide (x ≤ y))
theorem sort_up (l : List Int) : (l.mergeSort fun x y => decide (x ≤ y)).Pairwise (· ≤ ·) := by
  have := List.pairwise_mergeSort (le := fun x y : Int => decide (x ≤ y)) (by intro a b c; simp; omega) (by intro a b; simp; omega) l
  exact this.imp (by intro a b h; simpa using h)
theorem asc_mem {l : List Int} {x : Int} : x ∈ asc l ↔ x ∈ l := by unfold asc; rw [compact_mem (sort_up l), List.mem_mergeSort]
theorem asc_up (l : List Int) : (asc l).Pairwise (· < ·) := compact_up (sort_up l)

end Go.Proofs.YtncfbhnecmnfpaaGreatDoor
