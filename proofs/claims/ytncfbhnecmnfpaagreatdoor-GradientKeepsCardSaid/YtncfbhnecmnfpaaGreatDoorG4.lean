/- The breaks of a segment with a fill, and the parts between them. No condition. -/
import Derived.Test.YtncfbhnecmnfpaaGreatDoorG3
namespace Go.Proofs.YtncfbhnecmnfpaaGreatDoor
set_option linter.unusedVariables false
set_option linter.unusedSimpArgs false
open Go.Aw

/-- The ends of pieces. -/
def ends : List Piece → Int → List Int
  | [], _ => []
  | p :: l, a => (a + p.Volume) :: ends l (a + p.Volume)
theorem ends_len : ∀ (l : List Piece) (a : Int), (ends l a).length = l.length
  | [], _ => rfl
  | p :: l, a => by simp [ends, ends_len l]
theorem ends_get : ∀ (l : List Piece) (a : Int) (k : Nat), k < l.length → (ends l a)[k]? = some (a + sumV (l.take (k + 1)))
  | [], _, k, h => by simp at h
  | p :: l, a, 0, h => by simp [ends, sumV]
  | p :: l, a, k + 1, h => by
    simp only [ends, List.getElem?_cons_succ, List.take_succ_cons, sumV]
    rw [ends_get l _ k (by simpa using h)]
    congr 1; omega
theorem ends_mem {l : List Piece} {x : Int} : x ∈ ends l 0 ↔ ∃ k, k < l.length ∧ x = sumV (l.take (k + 1)) := by
  constructor
  · intro h
    obtain ⟨k, hk⟩ := List.getElem?_of_mem h
    have hl := (List.getElem?_eq_some_iff.1 hk).1
    rw [ends_len] at hl
    rw [ends_get l 0 k hl] at hk
    exact ⟨k, hl, by simp at hk; omega⟩
  · rintro ⟨k, hk, rfl⟩
    have := ends_get l 0 k hk
    rw [Int.zero_add] at this
    exact List.mem_of_getElem? this

/-- The breaks. -/
def brk (s : Segment) (f : List Piece) : List Int := Go.Lib.compact (isort (s.Points.map (·.At) ++ ends f 0))
theorem brk_asc (s : Segment) (f : List Piece) : brk s f = asc (s.Points.map (·.At) ++ ends f 0) := by unfold brk asc; rw [← sorted_eq]; rfl
theorem brk_mem {s : Segment} {f : List Piece} {x : Int} : x ∈ brk s f ↔ (∃ p, p ∈ s.Points ∧ p.At = x) ∨ ∃ k, k < f.length ∧ x = sumV (f.take (k + 1)) := by
  rw [brk_asc, asc_mem, List.mem_append, ends_mem, List.mem_map]
theorem brk_up (s : Segment) (f : List Piece) : (brk s f).Pairwise (· < ·) := by rw [brk_asc]; exact asc_up _
theorem compact_le (l : List Int) : (Go.Lib.compact l).length ≤ l.length := compact_len l
theorem isort_len (l : List Int) : (isort l).length = l.length := (isort_perm l).length_eq
theorem brk_len (s : Segment) (f : List Piece) : (brk s f).length ≤ s.Points.length + f.length := by
  unfold brk
  refine Nat.le_trans (compact_len _) ?_
  rw [isort_len]; simp [ends_len]

theorem breaks_ok {s : Segment} {f : List Piece} (h1 : 1 ≤ s.Points.length ∧ s.Points.length ≤ 100) (h2 : f.length ≤ 12) (h3 : ∀ p, p ∈ f → 1 ≤ p.Volume) (h4 : sumV f ≤ 1000000) : L.gradient_breaks s f = some (brk s f) := by
  have : Ok (L.gradient_breaks s f) fun r => r = brk s f := by
    unfold L.gradient_breaks
    refine .bind (Q := fun st => st = s.Points.map (·.At)) (.forS (fun k st => st = (s.Points.take k).map (·.At)) (by simp) ?_ fun st h => by rw [h, List.take_of_length_le (Nat.le_refl _)]) ?_
    · rintro k x _ hx rfl
      unfold L.gradient_breaks.B4
      have hk := (List.getElem?_eq_some_iff.1 hx).1
      refine .bind' (.app (by simp; omega) (.pure ?_))
      rw [List.take_add_one, hx]; simp
    rintro _ rfl
    unfold L.gradient_breaks.J1
    refine .bind (Q := fun st : List Int × Int => st.1 = s.Points.map (·.At) ++ ends f 0) (.forS (fun k (st : List Int × Int) => st.1 = s.Points.map (·.At) ++ (ends f 0).take k ∧ st.2 = sumV (f.take k)) (by simp [sumV]) ?_ fun st h => by rw [h.1, List.take_of_length_le (by rw [ends_len]; exact Nat.le_refl _)]) ?_
    · rintro k x ⟨_, _⟩ hx ⟨rfl, rfl⟩
      have hk := (List.getElem?_eq_some_iff.1 hx).1
      have hs := sumV_le_take h3 (k + 1)
      have e := sumV_take hx
      have hw : wr (sumV (f.take k) + x.Volume) = sumV (f.take (k + 1)) := by rw [← e, wr_id (by omega)]
      have hg := ends_get f 0 k hk
      rw [Int.zero_add] at hg
      unfold L.gradient_breaks.B3
      dsimp only
      rw [hw]
      refine .bind' (.app (by simp [ends_len]; omega) (.pure ⟨?_, rfl⟩))
      dsimp only
      rw [List.take_add_one (l := ends f 0), hg]; simp
    rintro ⟨_, c⟩ rfl
    unfold L.gradient_breaks.J2 L.slices_Sort_int_int L.slices_Compact_int_int
    dsimp only
    have hne : s.Points.map (·.At) ++ ends f 0 ≠ [] := by
      intro h
      have := congrArg List.length h
      rw [List.length_append, List.length_map, List.length_nil] at this; omega
    have hne2 : isort (s.Points.map (·.At) ++ ends f 0) ≠ [] := by
      intro h
      have := congrArg List.length h
      rw [isort_len, List.length_append, List.length_map, List.length_nil] at this; omega
    rw [if_neg hne]
    refine .bind' (.pure ?_)
    rw [if_neg hne2]
    exact .bind' (.pure (.pure rfl))
  obtain ⟨r, h, rfl⟩ := this
  exact h

/-- Points that ascend. -/
def Asc (pts : List Point) : Prop := ∀ (i j : Nat) (p q : Point), i < j → pts[i]? = some p → pts[j]? = some q → p.At < q.At
theorem PointsOk.asc {cap : Int} {l : List Point} (h : PointsOk cap l) : Asc l := by
  intro i j p q hij hp hq
  induction j generalizing q with
  | zero => omega
  | succ j ih =>
    have hj := (List.getElem?_eq_some_iff.1 hq).1
    have hr : l[j]? = some (l[j]'(by omega)) := List.getElem?_eq_getElem _
    have h1 := h.up j _ q hr hq
    by_cases he : i = j
    · subst he; rw [hp] at hr; cases hr; exact h1
    · have := ih (l[j]'(by omega)) (by omega) hr; omega

/-- sort.Search over an ascending question. -/
theorem search_ok {n : Nat} {g : Int → Option Bool} {P : Nat → Bool} (hn : n ≤ 1000000) (hg : ∀ k : Nat, k < n → g (k : Int) = some (P k)) (hm : ∀ i j : Nat, i ≤ j → j < n → P i = true → P j = true) :
    Ok (L.sort_Search (n : Int) g) fun r => ∃ k : Nat, r = (k : Int) ∧ k ≤ n ∧ (∀ i : Nat, i < k → P i = false) ∧ (k < n → P k = true) := by
  unfold L.sort_Search
  refine .bind (Q := fun r : Int => ∃ k : Nat, r = (k : Int) ∧ k ≤ n ∧ (∀ i : Nat, i < k → P i = false) ∧ (k < n → P k = true)) ?_ fun r hr => by unfold L.sort_Search.J1; exact .pure hr
  refine .loop (fun st : Int × Int => ∃ i j : Nat, st.1 = (i : Int) ∧ st.2 = (j : Int) ∧ i ≤ j ∧ j ≤ n ∧ (∀ x : Nat, x < i → P x = false) ∧ (j < n → P j = true)) (fun st => (st.2 - st.1).toNat)
    ⟨0, n, rfl, rfl, by omega, by omega, fun x h => absurd h (Nat.not_lt_zero _), fun h => absurd h (Nat.lt_irrefl _)⟩ (by dsimp only; omega) ?_
  rintro ⟨_, _⟩ ⟨i, j, rfl, rfl, hij, hjn, h1, h2⟩
  unfold L.sort_Search.B2
  dsimp only
  refine Ok.iteD (fun h => ?_) fun h => .pure ⟨i, rfl, by omega, h1, fun hin => by
    have : i = j := by omega
    subst this; exact h2 hin⟩
  have hmid : wr ((IntKind.u64.wrap (wr ((i : Int) + (j : Int)))).fdiv 2) = (((i + j) / 2 : Nat) : Int) := by
    rw [wr_id (x := (i : Int) + (j : Int)) (by omega)]
    have hu : IntKind.u64.wrap ((i : Int) + (j : Int)) = (i : Int) + (j : Int) := by
      unfold IntKind.wrap
      have : (i : Int) + (j : Int) < 18446744073709551616 := by omega
      simp [IntKind.bits, IntKind.signed]
      omega
    rw [hu, Int.fdiv_eq_ediv_of_nonneg _ (by decide), wr_id (by omega)]
    omega
  rw [hmid]
  have hk : (i + j) / 2 < j := by omega
  refine .bind' (.eq (hg _ (by omega)) (Ok.iteN (fun hp => ?_) fun hp => ?_))
  · refine .pure ⟨⟨(i + j) / 2 + 1, j, ?_, rfl, by omega, hjn, fun x hx => ?_, h2⟩, ?_⟩
    · dsimp only; rw [wr_id (by omega)]; omega
    · cases hpx : P x with
      | false => rfl
      | true => rw [hm x ((i + j) / 2) (by omega) (by omega) hpx] at hp; cases hp
    · dsimp only; rw [wr_id (by omega)]; omega
  · refine .pure ⟨⟨i, (i + j) / 2, rfl, rfl, by omega, by omega, h1, fun _ => hp⟩, ?_⟩
    dsimp only; omega

/-- Between which points a place lies. -/
theorem section_ok {s : Segment} (hl : 2 ≤ s.Points.length ∧ s.Points.length ≤ 100) (hup : Asc s.Points) (h0 : ∀ p, s.Points[0]? = some p → p.At = 0) {e : Int} (he : 0 < e) (hlast : ∀ p, s.Points[s.Points.length - 1]? = some p → e ≤ p.At) :
    Ok (L.gradient_section s e) fun r => ∃ (k : Nat) (a b : Point), r = ((k + 1 : Nat) : Int) ∧ s.Points[k]? = some a ∧ s.Points[k + 1]? = some b ∧ a.At < e ∧ e ≤ b.At := by
  unfold L.gradient_section
  have hP : ∃ P : Nat → Bool, P = fun k => match s.Points[k]? with | some p => decide (p.At ≥ e) | none => true := ⟨_, rfl⟩
  obtain ⟨P, hP⟩ := hP
  rw [show wr ((s.Points.length : Int) - 1) = ((s.Points.length - 1 : Nat) : Int) by rw [wr_id (by omega)]; omega]
  refine .bind (search_ok (P := P) (by omega) (fun k hk => ?_) (fun i j hij hj hi => ?_)) ?_
  · have hg : s.Points[k]? = some (s.Points[k]'(by omega)) := List.getElem?_eq_getElem _
    unfold L.gradient_section_1
    rw [ix_nat hg, hP]
    simp only [hg]
    rfl
  · have hgi : s.Points[i]? = some (s.Points[i]'(by omega)) := List.getElem?_eq_getElem _
    have hgj : s.Points[j]? = some (s.Points[j]'(by omega)) := List.getElem?_eq_getElem _
    rw [hP] at hi ⊢
    simp only [hgi, hgj, decide_eq_true_eq] at hi ⊢
    by_cases h : i = j
    · subst h; exact hi
    · have := hup i j _ _ (by omega) hgi hgj; omega
  rintro r ⟨k, rfl, hk, h1, h2⟩
  have hk1 : 1 ≤ k := by
    rcases Nat.eq_zero_or_pos k with h | h
    · subst h
      have := h2 (by omega)
      have hg : s.Points[0]? = some (s.Points[0]'(by omega)) := List.getElem?_eq_getElem _
      rw [hP] at this
      simp only [hg, decide_eq_true_eq] at this
      have := h0 _ hg
      omega
    · exact h
  have ha : s.Points[k - 1]? = some (s.Points[k - 1]'(by omega)) := List.getElem?_eq_getElem _
  have hb : s.Points[k]? = some (s.Points[k]'(by omega)) := List.getElem?_eq_getElem _
  refine .pure ⟨k - 1, _, _, by omega, ha, by rw [show k - 1 + 1 = k by omega]; exact hb, ?_, ?_⟩
  · have := h1 (k - 1) (by omega)
    rw [hP] at this
    simp only [ha, decide_eq_false_iff_not] at this
    omega
  · by_cases hkl : k < s.Points.length - 1
    · have := h2 hkl
      rw [hP] at this
      simp only [hb, decide_eq_true_eq] at this
      omega
    · have : k = s.Points.length - 1 := by omega
      subst this
      exact hlast _ hb

end Go.Proofs.YtncfbhnecmnfpaaGreatDoor
