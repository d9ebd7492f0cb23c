/- Sums over lists, and how they change with one element. No condition. -/
import Derived.Test.YtncfbhnecmnfpaaGreatDoorPlBase
namespace Go.Aw
set_option linter.unusedVariables false
set_option linter.unusedSimpArgs false

/-- The sum of the products of two lists. -/
def dot : List Int → List Int → Int
  | w :: ws, x :: xs => w * x + dot ws xs
  | _, _ => 0

theorem dot_nil (w : List Int) : dot w [] = 0 := by cases w <;> rfl
theorem dot_zero (w : List Int) (n : Nat) : dot w (List.replicate n 0) = 0 := by
  induction n generalizing w with
  | zero => exact dot_nil w
  | succ n ih => cases w with
    | nil => rfl
    | cons a w => simp [List.replicate_succ, dot, ih]

theorem dot_set {w l : List Int} {k : Nat} {a x y : Int} (hw : w[k]? = some a) (hl : l[k]? = some x) : dot w (l.set k y) = dot w l + a * (y - x) := by
  induction w generalizing l k with
  | nil => simp at hw
  | cons b w ih =>
    cases l with
    | nil => simp at hl
    | cons z l =>
      cases k with
      | zero =>
        simp at hw hl
        subst hw; subst hl
        simp only [List.set_cons_zero, dot, Int.mul_sub]; omega
      | succ k =>
        simp at hw hl
        simp only [List.set_cons_succ, dot, ih hw hl]; omega

theorem dot_neg (w l : List Int) : dot w (l.map fun x => -x) = -dot w l := by
  induction w generalizing l with
  | nil => rfl
  | cons b w ih =>
    cases l with
    | nil => rfl
    | cons z l => simp only [List.map_cons, dot, ih, Int.mul_neg]; omega

theorem dot_add (w : List Int) : ∀ (l m : List Int), l.length = m.length → dot w (List.zipWith (· + ·) l m) = dot w l + dot w m := by
  induction w with
  | nil => intros; rfl
  | cons b w ih =>
    intro l m h
    cases l <;> cases m <;> simp at h
    · simp [dot]
    · simp only [List.zipWith_cons_cons, dot, ih _ _ h, Int.mul_add]; omega

theorem dot_take_succ {w l : List Int} {k : Nat} {a x : Int} (hw : w[k]? = some a) (hl : l[k]? = some x) : dot w (l.take (k + 1)) = dot w (l.take k) + a * x := by
  induction w generalizing l k with
  | nil => simp at hw
  | cons b w ih =>
    cases l with
    | nil => simp at hl
    | cons z l =>
      cases k with
      | zero => simp at hw hl; subst hw; subst hl; simp [dot, dot_nil]
      | succ k =>
        simp at hw hl
        simp only [List.take_succ_cons, dot, ih hw hl]; omega

theorem get_set {α : Type} {l : List α} {k i : Nat} {x : α} : (l.set k x)[i]? = if k = i ∧ i < l.length then some x else l[i]? := by
  rw [List.getElem?_set]
  by_cases h : k = i
  · subst h
    by_cases h2 : k < l.length
    · simp [h2]
    · simp [h2]
  · simp [h]

end Go.Aw
