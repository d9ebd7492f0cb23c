/- What the generic functions of the library yield. No condition. -/
import Derived.Test.YtncfbhnecmnfpaaGreatDoorP2
namespace Go.Proofs.YtncfbhnecmnfpaaGreatDoor
set_option linter.unusedVariables false
set_option linter.unusedSimpArgs false
open Go.Aw

theorem indexFunc_int_int {s : List Int} {g : Int → Option Bool} {P : Int → Bool} (hg : ∀ (k : Nat) (x : Int), s[k]? = some x → g x = some (P x)) :
    Ok (L.slices_IndexFunc_int_int s g) fun r => (r = -1 ∧ ∀ (j : Nat) (y : Int), s[j]? = some y → P y = false) ∨ ∃ (k : Nat) (x : Int), r = (k : Int) ∧ s[k]? = some x ∧ P x = true ∧ ∀ (j : Nat) (y : Int), j < k → s[j]? = some y → P y = false := by
  unfold L.slices_IndexFunc_int_int
  refine .bind' (.forL (fun k _ => ∀ (j : Nat) (y : Int), j < k → s[j]? = some y → P y = false) (fun r => ∃ (k : Nat) (x : Int), r = (k : Int) ∧ s[k]? = some x ∧ P x = true ∧ ∀ (j : Nat) (y : Int), j < k → s[j]? = some y → P y = false) (fun j y h => absurd h (Nat.not_lt_zero _)) ?_ ?_ ?_)
  · intro k x _ hx hi
    unfold L.slices_IndexFunc_int_int.B2
    refine .bind' (.eq (hg k x hx) (Ok.iteB (fun hp => .pure ⟨k, x, rfl, hx, hp, hi⟩) fun hp => .pure fun j y hj hy => ?_))
    by_cases h : j < k
    · exact hi j y h hy
    · have : j = k := by omega
      subst this
      rw [hx] at hy; simp at hy; subst hy; exact hp
  · intro _ hi
    simp only [Sum.elim_inl]
    unfold L.slices_IndexFunc_int_int.J1
    exact .pure (.inl ⟨rfl, fun j y hy => hi j y (List.getElem?_eq_some_iff.1 hy).1 hy⟩)
  · intro b hb
    exact .pure (.inr hb)

theorem containsFunc_int_int {s : List Int} {g : Int → Option Bool} {P : Int → Bool} (hg : ∀ (k : Nat) (x : Int), s[k]? = some x → g x = some (P x)) :
    L.slices_ContainsFunc_int_int s g = some (s.any P) := by
  have : Ok (L.slices_ContainsFunc_int_int s g) fun r => r = s.any P := by
    unfold L.slices_ContainsFunc_int_int
    refine .bind (indexFunc_int_int hg) fun r hr => .pure ?_
    rcases hr with ⟨rfl, h⟩ | ⟨k, x, rfl, hx, hp, _⟩
    · have : s.any P = false := by
        rw [List.any_eq_false]
        intro x hx
        obtain ⟨j, hj⟩ := List.getElem?_of_mem hx
        rw [h j x hj]; simp
      rw [this]; rfl
    · have : s.any P = true := List.any_eq_true.2 ⟨x, List.mem_of_getElem? hx, hp⟩
      rw [this]; simp
  obtain ⟨r, h, rfl⟩ := this
  exact h

theorem indexFunc_string_string {s : List ByteArray} {g : ByteArray → Option Bool} {P : ByteArray → Bool} (hg : ∀ (k : Nat) (x : ByteArray), s[k]? = some x → g x = some (P x)) :
    Ok (L.slices_IndexFunc_string_string s g) fun r => (r = -1 ∧ ∀ (j : Nat) (y : ByteArray), s[j]? = some y → P y = false) ∨ ∃ (k : Nat) (x : ByteArray), r = (k : Int) ∧ s[k]? = some x ∧ P x = true ∧ ∀ (j : Nat) (y : ByteArray), j < k → s[j]? = some y → P y = false := by
  unfold L.slices_IndexFunc_string_string
  refine .bind' (.forL (fun k _ => ∀ (j : Nat) (y : ByteArray), j < k → s[j]? = some y → P y = false) (fun r => ∃ (k : Nat) (x : ByteArray), r = (k : Int) ∧ s[k]? = some x ∧ P x = true ∧ ∀ (j : Nat) (y : ByteArray), j < k → s[j]? = some y → P y = false) (fun j y h => absurd h (Nat.not_lt_zero _)) ?_ ?_ ?_)
  · intro k x _ hx hi
    unfold L.slices_IndexFunc_string_string.B2
    refine .bind' (.eq (hg k x hx) (Ok.iteB (fun hp => .pure ⟨k, x, rfl, hx, hp, hi⟩) fun hp => .pure fun j y hj hy => ?_))
    by_cases h : j < k
    · exact hi j y h hy
    · have : j = k := by omega
      subst this
      rw [hx] at hy; simp at hy; subst hy; exact hp
  · intro _ hi
    simp only [Sum.elim_inl]
    unfold L.slices_IndexFunc_string_string.J1
    exact .pure (.inl ⟨rfl, fun j y hy => hi j y (List.getElem?_eq_some_iff.1 hy).1 hy⟩)
  · intro b hb
    exact .pure (.inr hb)

theorem containsFunc_string_string {s : List ByteArray} {g : ByteArray → Option Bool} {P : ByteArray → Bool} (hg : ∀ (k : Nat) (x : ByteArray), s[k]? = some x → g x = some (P x)) :
    L.slices_ContainsFunc_string_string s g = some (s.any P) := by
  have : Ok (L.slices_ContainsFunc_string_string s g) fun r => r = s.any P := by
    unfold L.slices_ContainsFunc_string_string
    refine .bind (indexFunc_string_string hg) fun r hr => .pure ?_
    rcases hr with ⟨rfl, h⟩ | ⟨k, x, rfl, hx, hp, _⟩
    · have : s.any P = false := by
        rw [List.any_eq_false]
        intro x hx
        obtain ⟨j, hj⟩ := List.getElem?_of_mem hx
        rw [h j x hj]; simp
      rw [this]; rfl
    · have : s.any P = true := List.any_eq_true.2 ⟨x, List.mem_of_getElem? hx, hp⟩
      rw [this]; simp
  obtain ⟨r, h, rfl⟩ := this
  exact h

theorem indexFunc_api_Segment_api_Segment {s : List Segment} {g : Segment → Option Bool} {P : Segment → Bool} (hg : ∀ (k : Nat) (x : Segment), s[k]? = some x → g x = some (P x)) :
    Ok (L.slices_IndexFunc_api_Segment_api_Segment s g) fun r => (r = -1 ∧ ∀ (j : Nat) (y : Segment), s[j]? = some y → P y = false) ∨ ∃ (k : Nat) (x : Segment), r = (k : Int) ∧ s[k]? = some x ∧ P x = true ∧ ∀ (j : Nat) (y : Segment), j < k → s[j]? = some y → P y = false := by
  unfold L.slices_IndexFunc_api_Segment_api_Segment
  refine .bind' (.forL (fun k _ => ∀ (j : Nat) (y : Segment), j < k → s[j]? = some y → P y = false) (fun r => ∃ (k : Nat) (x : Segment), r = (k : Int) ∧ s[k]? = some x ∧ P x = true ∧ ∀ (j : Nat) (y : Segment), j < k → s[j]? = some y → P y = false) (fun j y h => absurd h (Nat.not_lt_zero _)) ?_ ?_ ?_)
  · intro k x _ hx hi
    unfold L.slices_IndexFunc_api_Segment_api_Segment.B2
    refine .bind' (.eq (hg k x hx) (Ok.iteB (fun hp => .pure ⟨k, x, rfl, hx, hp, hi⟩) fun hp => .pure fun j y hj hy => ?_))
    by_cases h : j < k
    · exact hi j y h hy
    · have : j = k := by omega
      subst this
      rw [hx] at hy; simp at hy; subst hy; exact hp
  · intro _ hi
    simp only [Sum.elim_inl]
    unfold L.slices_IndexFunc_api_Segment_api_Segment.J1
    exact .pure (.inl ⟨rfl, fun j y hy => hi j y (List.getElem?_eq_some_iff.1 hy).1 hy⟩)
  · intro b hb
    exact .pure (.inr hb)

theorem containsFunc_api_Segment_api_Segment {s : List Segment} {g : Segment → Option Bool} {P : Segment → Bool} (hg : ∀ (k : Nat) (x : Segment), s[k]? = some x → g x = some (P x)) :
    L.slices_ContainsFunc_api_Segment_api_Segment s g = some (s.any P) := by
  have : Ok (L.slices_ContainsFunc_api_Segment_api_Segment s g) fun r => r = s.any P := by
    unfold L.slices_ContainsFunc_api_Segment_api_Segment
    refine .bind (indexFunc_api_Segment_api_Segment hg) fun r hr => .pure ?_
    rcases hr with ⟨rfl, h⟩ | ⟨k, x, rfl, hx, hp, _⟩
    · have : s.any P = false := by
        rw [List.any_eq_false]
        intro x hx
        obtain ⟨j, hj⟩ := List.getElem?_of_mem hx
        rw [h j x hj]; simp
      rw [this]; rfl
    · have : s.any P = true := List.any_eq_true.2 ⟨x, List.mem_of_getElem? hx, hp⟩
      rw [this]; simp
  obtain ⟨r, h, rfl⟩ := this
  exact h

theorem indexFunc_api_Port_api_Port {s : List Port} {g : Port → Option Bool} {P : Port → Bool} (hg : ∀ (k : Nat) (x : Port), s[k]? = some x → g x = some (P x)) :
    Ok (L.slices_IndexFunc_api_Port_api_Port s g) fun r => (r = -1 ∧ ∀ (j : Nat) (y : Port), s[j]? = some y → P y = false) ∨ ∃ (k : Nat) (x : Port), r = (k : Int) ∧ s[k]? = some x ∧ P x = true ∧ ∀ (j : Nat) (y : Port), j < k → s[j]? = some y → P y = false := by
  unfold L.slices_IndexFunc_api_Port_api_Port
  refine .bind' (.forL (fun k _ => ∀ (j : Nat) (y : Port), j < k → s[j]? = some y → P y = false) (fun r => ∃ (k : Nat) (x : Port), r = (k : Int) ∧ s[k]? = some x ∧ P x = true ∧ ∀ (j : Nat) (y : Port), j < k → s[j]? = some y → P y = false) (fun j y h => absurd h (Nat.not_lt_zero _)) ?_ ?_ ?_)
  · intro k x _ hx hi
    unfold L.slices_IndexFunc_api_Port_api_Port.B2
    refine .bind' (.eq (hg k x hx) (Ok.iteB (fun hp => .pure ⟨k, x, rfl, hx, hp, hi⟩) fun hp => .pure fun j y hj hy => ?_))
    by_cases h : j < k
    · exact hi j y h hy
    · have : j = k := by omega
      subst this
      rw [hx] at hy; simp at hy; subst hy; exact hp
  · intro _ hi
    simp only [Sum.elim_inl]
    unfold L.slices_IndexFunc_api_Port_api_Port.J1
    exact .pure (.inl ⟨rfl, fun j y hy => hi j y (List.getElem?_eq_some_iff.1 hy).1 hy⟩)
  · intro b hb
    exact .pure (.inr hb)

theorem containsFunc_api_Port_api_Port {s : List Port} {g : Port → Option Bool} {P : Port → Bool} (hg : ∀ (k : Nat) (x : Port), s[k]? = some x → g x = some (P x)) :
    L.slices_ContainsFunc_api_Port_api_Port s g = some (s.any P) := by
  have : Ok (L.slices_ContainsFunc_api_Port_api_Port s g) fun r => r = s.any P := by
    unfold L.slices_ContainsFunc_api_Port_api_Port
    refine .bind (indexFunc_api_Port_api_Port hg) fun r hr => .pure ?_
    rcases hr with ⟨rfl, h⟩ | ⟨k, x, rfl, hx, hp, _⟩
    · have : s.any P = false := by
        rw [List.any_eq_false]
        intro x hx
        obtain ⟨j, hj⟩ := List.getElem?_of_mem hx
        rw [h j x hj]; simp
      rw [this]; rfl
    · have : s.any P = true := List.any_eq_true.2 ⟨x, List.mem_of_getElem? hx, hp⟩
      rw [this]; simp
  obtain ⟨r, h, rfl⟩ := this
  exact h

theorem indexFunc_api_Station_api_Station {s : List Station} {g : Station → Option Bool} {P : Station → Bool} (hg : ∀ (k : Nat) (x : Station), s[k]? = some x → g x = some (P x)) :
    Ok (L.slices_IndexFunc_api_Station_api_Station s g) fun r => (r = -1 ∧ ∀ (j : Nat) (y : Station), s[j]? = some y → P y = false) ∨ ∃ (k : Nat) (x : Station), r = (k : Int) ∧ s[k]? = some x ∧ P x = true ∧ ∀ (j : Nat) (y : Station), j < k → s[j]? = some y → P y = false := by
  unfold L.slices_IndexFunc_api_Station_api_Station
  refine .bind' (.forL (fun k _ => ∀ (j : Nat) (y : Station), j < k → s[j]? = some y → P y = false) (fun r => ∃ (k : Nat) (x : Station), r = (k : Int) ∧ s[k]? = some x ∧ P x = true ∧ ∀ (j : Nat) (y : Station), j < k → s[j]? = some y → P y = false) (fun j y h => absurd h (Nat.not_lt_zero _)) ?_ ?_ ?_)
  · intro k x _ hx hi
    unfold L.slices_IndexFunc_api_Station_api_Station.B2
    refine .bind' (.eq (hg k x hx) (Ok.iteB (fun hp => .pure ⟨k, x, rfl, hx, hp, hi⟩) fun hp => .pure fun j y hj hy => ?_))
    by_cases h : j < k
    · exact hi j y h hy
    · have : j = k := by omega
      subst this
      rw [hx] at hy; simp at hy; subst hy; exact hp
  · intro _ hi
    simp only [Sum.elim_inl]
    unfold L.slices_IndexFunc_api_Station_api_Station.J1
    exact .pure (.inl ⟨rfl, fun j y hy => hi j y (List.getElem?_eq_some_iff.1 hy).1 hy⟩)
  · intro b hb
    exact .pure (.inr hb)

theorem containsFunc_api_Station_api_Station {s : List Station} {g : Station → Option Bool} {P : Station → Bool} (hg : ∀ (k : Nat) (x : Station), s[k]? = some x → g x = some (P x)) :
    L.slices_ContainsFunc_api_Station_api_Station s g = some (s.any P) := by
  have : Ok (L.slices_ContainsFunc_api_Station_api_Station s g) fun r => r = s.any P := by
    unfold L.slices_ContainsFunc_api_Station_api_Station
    refine .bind (indexFunc_api_Station_api_Station hg) fun r hr => .pure ?_
    rcases hr with ⟨rfl, h⟩ | ⟨k, x, rfl, hx, hp, _⟩
    · have : s.any P = false := by
        rw [List.any_eq_false]
        intro x hx
        obtain ⟨j, hj⟩ := List.getElem?_of_mem hx
        rw [h j x hj]; simp
      rw [this]; rfl
    · have : s.any P = true := List.any_eq_true.2 ⟨x, List.mem_of_getElem? hx, hp⟩
      rw [this]; simp
  obtain ⟨r, h, rfl⟩ := this
  exact h

theorem index_string_string {s : List ByteArray} {v : ByteArray} :
    Ok (L.slices_Index_string_string s v) fun r => (r = -1 ∧ ∀ (j : Nat) (y : ByteArray), s[j]? = some y → (sEq v y) = false) ∨ ∃ (k : Nat) (y : ByteArray), r = (k : Int) ∧ s[k]? = some y ∧ (sEq v y) = true ∧ ∀ (j : Nat) (y : ByteArray), j < k → s[j]? = some y → (sEq v y) = false := by
  unfold L.slices_Index_string_string
  refine .bind' (.forL (fun k _ => ∀ (j : Nat) (y : ByteArray), j < k → s[j]? = some y → (sEq v y) = false) (fun r => ∃ (k : Nat) (y : ByteArray), r = (k : Int) ∧ s[k]? = some y ∧ (sEq v y) = true ∧ ∀ (j : Nat) (y : ByteArray), j < k → s[j]? = some y → (sEq v y) = false) (fun j y h => absurd h (Nat.not_lt_zero _)) ?_ ?_ ?_)
  · intro k x _ hx hi
    unfold L.slices_Index_string_string.B2
    refine Ok.iteB (fun hp => .pure ⟨k, x, rfl, hx, hp, hi⟩) fun hp => .pure fun j y hj hy => ?_
    by_cases h : j < k
    · exact hi j y h hy
    · have : j = k := by omega
      subst this
      rw [hx] at hy; simp at hy; subst hy; exact hp
  · intro _ hi
    simp only [Sum.elim_inl]
    unfold L.slices_Index_string_string.J1
    exact .pure (.inl ⟨rfl, fun j y hy => hi j y (List.getElem?_eq_some_iff.1 hy).1 hy⟩)
  · intro b hb
    exact .pure (.inr hb)

end Go.Proofs.YtncfbhnecmnfpaaGreatDoor
