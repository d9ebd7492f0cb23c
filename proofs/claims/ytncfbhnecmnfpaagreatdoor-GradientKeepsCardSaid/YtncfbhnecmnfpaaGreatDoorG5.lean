/- Facts of breaks; the losses of parts, and the levels that they give. No condition. -/
import Derived.Test.YtncfbhnecmnfpaaGreatDoorG4
namespace Go.Proofs.YtncfbhnecmnfpaaGreatDoor
set_option linter.unusedVariables false
set_option linter.unusedSimpArgs false
open Go.Aw

/-! ### Ascending lists -/

theorem up_get {l : List Int} (h : l.Pairwise (· < ·)) {i j : Nat} {a b : Int} (hij : i < j) (ha : l[i]? = some a) (hb : l[j]? = some b) : a < b := by
  obtain ⟨h1, rfl⟩ := List.getElem?_eq_some_iff.1 ha
  obtain ⟨h2, rfl⟩ := List.getElem?_eq_some_iff.1 hb
  exact List.pairwise_iff_getElem.1 h i j h1 h2 hij
theorem up_first {l : List Int} (h : l.Pairwise (· < ·)) {m : Int} (hm : m ∈ l) (ha : ∀ x, x ∈ l → m ≤ x) : l[0]? = some m := by
  obtain ⟨k, hk⟩ := List.getElem?_of_mem hm
  have hl := (List.getElem?_eq_some_iff.1 hk).1
  by_cases h0 : k = 0
  · subst h0; exact hk
  · have hg : l[0]? = some (l[0]'(by omega)) := List.getElem?_eq_getElem _
    have := up_get h (i := 0) (by omega) hg hk
    have := ha _ (List.mem_of_getElem? hg)
    omega
theorem up_last {l : List Int} (h : l.Pairwise (· < ·)) {m : Int} (hm : m ∈ l) (ha : ∀ x, x ∈ l → x ≤ m) : l[l.length - 1]? = some m := by
  obtain ⟨k, hk⟩ := List.getElem?_of_mem hm
  have hl := (List.getElem?_eq_some_iff.1 hk).1
  by_cases h0 : k = l.length - 1
  · subst h0; exact hk
  · have hg : l[l.length - 1]? = some (l[l.length - 1]'(by omega)) := List.getElem?_eq_getElem _
    have := up_get h (i := k) (j := l.length - 1) (by omega) hk hg
    have := ha _ (List.mem_of_getElem? hg)
    omega

theorem PointsOk.at_range {cap : Int} {l : List Point} (h : PointsOk cap l) {i : Nat} {p : Point} (hp : l[i]? = some p) : 0 ≤ p.At ∧ p.At ≤ cap := by
  have hi := (List.getElem?_eq_some_iff.1 hp).1
  have h2 := h.len
  have g0 : l[0]? = some (l[0]'(by omega)) := List.getElem?_eq_getElem _
  have g1 : l[l.length - 1]? = some (l[l.length - 1]'(by omega)) := List.getElem?_eq_getElem _
  have e0 := h.first _ g0
  have e1 := h.last _ g1
  constructor
  · by_cases hz : i = 0
    · subst hz; rw [g0] at hp; cases hp; omega
    · have := h.asc 0 i _ _ (by omega) g0 hp; omega
  · by_cases hz : i = l.length - 1
    · subst hz; rw [g1] at hp; cases hp; omega
    · have := h.asc i (l.length - 1) _ _ (by omega) hp g1; omega

theorem brk_range {s : Segment} {f : List Piece} (hp : PointsOk s.Capacity s.Points) (hf : FillOk s.Capacity f) {x : Int} (h : x ∈ brk s f) : 0 ≤ x ∧ x ≤ s.Capacity := by
  rcases brk_mem.1 h with ⟨p, hm, rfl⟩ | ⟨k, hk, rfl⟩
  · obtain ⟨i, hi⟩ := List.getElem?_of_mem hm
    exact hp.at_range hi
  · have := sumV_le_take hf.vol (k + 1)
    have := hf.sum; omega
theorem brk_first {s : Segment} {f : List Piece} (hp : PointsOk s.Capacity s.Points) (hf : FillOk s.Capacity f) : (brk s f)[0]? = some 0 := by
  have h2 := hp.len
  have g0 : s.Points[0]? = some (s.Points[0]'(by omega)) := List.getElem?_eq_getElem _
  exact up_first (brk_up s f) (brk_mem.2 (.inl ⟨_, List.mem_of_getElem? g0, hp.first _ g0⟩)) fun x hx => (brk_range hp hf hx).1
theorem brk_last {s : Segment} {f : List Piece} (hp : PointsOk s.Capacity s.Points) (hf : FillOk s.Capacity f) : (brk s f)[(brk s f).length - 1]? = some s.Capacity := by
  have h2 := hp.len
  have g0 : s.Points[s.Points.length - 1]? = some (s.Points[s.Points.length - 1]'(by omega)) := List.getElem?_eq_getElem _
  exact up_last (brk_up s f) (brk_mem.2 (.inl ⟨_, List.mem_of_getElem? g0, hp.last _ g0⟩)) fun x hx => (brk_range hp hf hx).2
theorem brk_two {s : Segment} {f : List Piece} (hp : PointsOk s.Capacity s.Points) (hc : 1 ≤ s.Capacity) (hf : FillOk s.Capacity f) : 2 ≤ (brk s f).length := by
  have h1 := brk_first hp hf
  have h2 := brk_last hp hf
  have := (List.getElem?_eq_some_iff.1 h1).1
  by_cases h : (brk s f).length = 1
  · rw [h] at h2; rw [h1] at h2; simp at h2; omega
  · omega

/-! ### Losses -/

theorem mul_bd {a b A B : Int} (ha : -A ≤ a ∧ a ≤ A) (hb : -B ≤ b ∧ b ≤ B) : -(A * B) ≤ a * b ∧ a * b ≤ A * B := by
  have h1 : a.natAbs ≤ A.toNat := by omega
  have h2 : b.natAbs ≤ B.toNat := by omega
  have h3 := Nat.mul_le_mul h1 h2
  rw [← Int.natAbs_mul] at h3
  have e : ((A.toNat * B.toNat : Nat) : Int) = A * B := by
    rw [Int.natCast_mul, Int.toNat_of_nonneg (by omega), Int.toNat_of_nonneg (by omega)]
  omega

/-- The friction and the lift of a part, times their denominators. -/
def frA (s : Segment) (q : Int) (x : gradient_part) : Int := s.Resist * x.liquid.Friction * q * q * x.length
def frB (s : Segment) : Int := 1000 * s.Capacity
def liA (x : gradient_part) : Int := x.liquid.Density * 9807 * x.height * x.length
def liB (x : gradient_part) : Int := 1000 * x.width
/-- The least and the greatest loss. -/
def lo (s : Segment) (q : Int) (x : gradient_part) : Int := dn (frA s q x) (frB s) + dn (liA x) (liB x)
def hi (s : Segment) (q : Int) (x : gradient_part) : Int := up (frA s q x) (frB s) + up (liA x) (liB x)

/-- What is known of a part. -/
structure PartOk (s : Segment) (x : gradient_part) : Prop where
  length : 1 ≤ x.length ∧ x.length ≤ 1000
  width : 1 ≤ x.width ∧ x.width ≤ 1000
  height : -5500 ≤ x.height ∧ x.height ≤ 5500
  density : 400 ≤ x.liquid.Density ∧ x.liquid.Density ≤ 1200
  friction : 1 ≤ x.liquid.Friction ∧ x.liquid.Friction ≤ 2000

section
variable {s : Segment} {q : Int} {x : gradient_part}
theorem frA_bd (hr : 0 ≤ s.Resist ∧ s.Resist ≤ 1000) (hq : 1 ≤ q ∧ q ≤ 1000) (hx : PartOk s x) :
    (0 ≤ s.Resist * x.liquid.Friction ∧ s.Resist * x.liquid.Friction ≤ 2000000) ∧ (0 ≤ s.Resist * x.liquid.Friction * q ∧ s.Resist * x.liquid.Friction * q ≤ 2000000000) ∧
    (0 ≤ s.Resist * x.liquid.Friction * q * q ∧ s.Resist * x.liquid.Friction * q * q ≤ 2000000000000) ∧ 0 ≤ frA s q x ∧ frA s q x ≤ 2000000000000000 := by
  have h1 := hx.friction; have h2 := hx.length
  have a1 := mul_bd (a := s.Resist) (b := x.liquid.Friction) (A := 1000) (B := 2000) (by omega) (by omega)
  have p1 := Int.mul_nonneg hr.1 (show 0 ≤ x.liquid.Friction by omega)
  have a2 := mul_bd (a := s.Resist * x.liquid.Friction) (b := q) (A := 2000000) (B := 1000) (by omega) (by omega)
  have p2 := Int.mul_nonneg p1 (show 0 ≤ q by omega)
  have a3 := mul_bd (a := s.Resist * x.liquid.Friction * q) (b := q) (A := 2000000000) (B := 1000) (by omega) (by omega)
  have p3 := Int.mul_nonneg p2 (show 0 ≤ q by omega)
  have a4 := mul_bd (a := s.Resist * x.liquid.Friction * q * q) (b := x.length) (A := 2000000000000) (B := 1000) (by omega) (by omega)
  have p4 := Int.mul_nonneg p3 (show 0 ≤ x.length by omega)
  unfold frA
  refine ⟨⟨p1, by omega⟩, ⟨p2, by omega⟩, ⟨p3, by omega⟩, p4, by omega⟩
theorem liA_bd (hx : PartOk s x) :
    (0 ≤ x.liquid.Density * 9807 ∧ x.liquid.Density * 9807 ≤ 11768400) ∧ (-64726200000 ≤ x.liquid.Density * 9807 * x.height ∧ x.liquid.Density * 9807 * x.height ≤ 64726200000) ∧
    -64726200000000 ≤ liA x ∧ liA x ≤ 64726200000000 := by
  have h1 := hx.density; have h2 := hx.length; have h3 := hx.height
  have a2 := mul_bd (a := x.liquid.Density * 9807) (b := x.height) (A := 11768400) (B := 5500) (by omega) (by omega)
  have a3 := mul_bd (a := x.liquid.Density * 9807 * x.height) (b := x.length) (A := 64726200000) (B := 1000) (by omega) (by omega)
  unfold liA
  refine ⟨⟨by omega, by omega⟩, ⟨by omega, by omega⟩, by omega, by omega⟩
theorem lohi (hc : 1 ≤ s.Capacity) (hx : PartOk s x) : lo s q x ≤ hi s q x ∧ hi s q x ≤ lo s q x + 2 := by
  have h1 := dn_up (a := frA s q x) (b := frB s) (by unfold frB; omega)
  have h2 := dn_up (a := liA x) (b := liB x) (by have := hx.width; unfold liB; omega)
  unfold lo hi; omega
theorem lo_bd (hc : 1 ≤ s.Capacity) (hr : 0 ≤ s.Resist ∧ s.Resist ≤ 1000) (hq : 1 ≤ q ∧ q ≤ 1000) (hx : PartOk s x) :
    (-3000000000000000 ≤ lo s q x ∧ lo s q x ≤ 3000000000000000) ∧ (-3000000000000000 ≤ hi s q x ∧ hi s q x ≤ 3000000000000000) := by
  have h1 := frA_bd hr hq hx
  have h2 := liA_bd hx
  have d1 := dn_small (a := frA s q x) (b := frB s) (by unfold frB; omega)
  have d2 := dn_small (a := liA x) (b := liB x) (by have := hx.width; unfold liB; omega)
  have u1 := up_small (a := frA s q x) (b := frB s) (by unfold frB; omega)
  have u2 := up_small (a := liA x) (b := liB x) (by have := hx.width; unfold liB; omega)
  unfold lo hi; omega
end

/-- The part the other way round, and on level ground. -/
def neg (x : gradient_part) : gradient_part := ⟨x.length, x.width, -x.height, x.liquid⟩
def flat (x : gradient_part) : gradient_part := ⟨x.length, x.width, 0, x.liquid⟩
theorem neg_ok {s : Segment} {x : gradient_part} (h : PartOk s x) : PartOk s (neg x) := ⟨h.length, h.width, by have := h.height; simp only [neg]; omega, h.density, h.friction⟩
theorem flat_ok {s t : Segment} {x : gradient_part} (h : PartOk s x) : PartOk t (flat x) := ⟨h.length, h.width, by simp only [flat]; omega, h.density, h.friction⟩
theorem liA_neg (x : gradient_part) : liA (neg x) = -liA x := by unfold liA neg; dsimp only; rw [Int.mul_neg, Int.neg_mul]
theorem liA_flat (x : gradient_part) : liA (flat x) = 0 := by unfold liA flat; dsimp only; rw [Int.mul_zero, Int.zero_mul]

/-! ### Sums over parts -/

def sumBy {α : Type} (g : α → Int) : List α → Int
  | [] => 0
  | x :: l => g x + sumBy g l
theorem sumBy_append {α : Type} (g : α → Int) : ∀ l m : List α, sumBy g (l ++ m) = sumBy g l + sumBy g m
  | [], m => by simp [sumBy]
  | x :: l, m => by simp only [List.cons_append, sumBy, sumBy_append g l m]; omega
theorem sumBy_take {α : Type} (g : α → Int) {l : List α} {k : Nat} {x : α} (h : l[k]? = some x) : sumBy g (l.take (k + 1)) = sumBy g (l.take k) + g x := by
  rw [List.take_add_one, h, sumBy_append]; simp [sumBy]
theorem sumBy_map {α β : Type} (g : β → Int) (h : α → β) : ∀ l : List α, sumBy g (l.map h) = sumBy (fun x => g (h x)) l
  | [] => rfl
  | x :: l => by simp only [List.map_cons, sumBy, sumBy_map g h l]
theorem sumBy_rev {α : Type} (g : α → Int) : ∀ l : List α, sumBy g l.reverse = sumBy g l
  | [] => rfl
  | x :: l => by rw [List.reverse_cons, sumBy_append, sumBy_rev g l]; simp [sumBy]; omega
theorem sumBy_le {α : Type} {g h : α → Int} : ∀ {l : List α}, (∀ x, x ∈ l → g x ≤ h x) → sumBy g l ≤ sumBy h l
  | [], _ => by simp [sumBy]
  | x :: l, hh => by
    have := hh x (by simp)
    have := sumBy_le (l := l) fun y hy => hh y (by simp [hy])
    simp only [sumBy]; omega
theorem sumBy_bd {α : Type} {g : α → Int} {B : Int} : ∀ {l : List α}, (∀ x, x ∈ l → -B ≤ g x ∧ g x ≤ B) → -(B * l.length) ≤ sumBy g l ∧ sumBy g l ≤ B * l.length
  | [], _ => by simp [sumBy]
  | x :: l, hh => by
    have h1 := hh x (by simp)
    have h2 := sumBy_bd (l := l) fun y hy => hh y (by simp [hy])
    have e : B * ((x :: l).length : Int) = B * l.length + B := by rw [List.length_cons, Int.natCast_add, Int.mul_add]; simp
    rw [e]
    simp only [sumBy]; omega
theorem sumBy_add {α : Type} (g h : α → Int) : ∀ l : List α, sumBy (fun x => g x + h x) l = sumBy g l + sumBy h l
  | [] => rfl
  | x :: l => by simp only [sumBy, sumBy_add g h l]; omega
theorem sumBy_congr {α : Type} {g h : α → Int} {l : List α} (hh : ∀ x, x ∈ l → g x = h x) : sumBy g l = sumBy h l := by
  have h1 := sumBy_le (l := l) fun x hx => by have := hh x hx; exact Int.le_of_eq this
  have h2 := sumBy_le (l := l) fun x hx => by have := hh x hx; exact Int.le_of_eq this.symm
  omega
theorem sumBy_mul {α : Type} (c : Int) (g : α → Int) : ∀ l : List α, sumBy (fun x => c * g x) l = c * sumBy g l
  | [] => by simp [sumBy]
  | x :: l => by simp only [sumBy, sumBy_mul c g l, Int.mul_add]

/-- The levels along parts. -/
def lvl (s : Segment) (q : Int) (b : Bounds) (places : List Int) (way : List gradient_part) (i : Nat) : Level :=
  ⟨places.getD i 0, ⟨b.Low - sumBy (hi s q) (way.take i), b.High - sumBy (lo s q) (way.take i)⟩⟩
def lvls (s : Segment) (q : Int) (b : Bounds) (places : List Int) (way : List gradient_part) : List Level := (List.range places.length).map (lvl s q b places way)
theorem lvls_len (s : Segment) (q : Int) (b : Bounds) (places : List Int) (way : List gradient_part) : (lvls s q b places way).length = places.length := by simp [lvls]
theorem lvls_get (s : Segment) (q : Int) (b : Bounds) {places : List Int} (way : List gradient_part) {i : Nat} (h : i < places.length) : (lvls s q b places way)[i]? = some (lvl s q b places way i) := by
  unfold lvls; rw [List.getElem?_map, List.getElem?_range h]; rfl

end Go.Proofs.YtncfbhnecmnfpaaGreatDoor
