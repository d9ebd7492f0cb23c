/- GradientBreaks answers true. No condition. -/
import Derived.Test.YtncfbhnecmnfpaaGreatDoorG9
namespace Go.Proofs.YtncfbhnecmnfpaaGreatDoor
set_option linter.unusedVariables false
set_option linter.unusedSimpArgs false
open Go.Aw

theorem ref14Valid {cap : Int} {f : List Piece} (h : FillOk cap f) (hc : 1 ≤ cap ∧ cap ≤ 1000) : L.ref14_Valid f = some true := by
  have hl := h.len; have hs := h.sum
  have : Ok (L.ref14_Valid f) fun r => r = true := by
    unfold L.ref14_Valid
    refine Ok.iteD (fun h => by omega) fun _ => .bind' (.forL (fun k st => st = sumV (f.take k)) (fun _ => False) (by simp [sumV]) ?_ ?_ fun _ h => h.elim)
    · rintro k x _ hx rfl
      have hm := List.mem_of_getElem? hx
      have h1 := h.vol x hm; have h2 := h.bat x hm; have h3 := pieces_le h hm
      have h4 := sumV_le_take h.vol (k + 1)
      have h5 := sumV_take hx
      have no : Ok (L.ref14_Valid.J3 x (sumV (f.take k)) false) (Sum.elim (fun st : Int => st = sumV (f.take (k + 1))) fun _ : Bool => False) := by
        unfold L.ref14_Valid.J3; exact .pure (by simp only [Sum.elim_inl]; rw [wr_id (by omega)]; omega)
      unfold L.ref14_Valid.B2
      refine Ok.iteN (fun hh => ?_) fun _ => Ok.iteD (fun hh => by omega) fun _ => Ok.iteD (fun h0 => by omega) fun _ => Ok.iteD (fun h0 => ?_) fun _ => no
      · simp [L.ref14_Proper] at hh; omega
      · have hkl := (List.getElem?_eq_some_iff.1 hx).1
        have hj : f[k - 1]? = some (f[k - 1]'(by omega)) := List.getElem?_eq_getElem _
        have hne := h.next (k - 1) _ x hj (by rw [show k - 1 + 1 = k by omega]; exact hx)
        rw [show wr ((k : Int) - 1) = ((k - 1 : Nat) : Int) by rw [wr_id (by omega)]; omega]
        refine .bind' (.eq (ix_nat hj) ?_)
        dsimp only
        rw [show (x.Batch == f[k - 1].Batch) = false by simpa using fun e => hne e.symm]
        exact no
    · rintro _ rfl
      simp only [Sum.elim_inl]
      unfold L.ref14_Valid.J1
      rw [List.take_of_length_le (Nat.le_refl _)]
      exact .pure (by simp; omega)
  obtain ⟨r, h, rfl⟩ := this
  exact h

theorem ref14Sum {f : List Piece} (h1 : ∀ p, p ∈ f → 1 ≤ p.Volume) (h3 : sumV f ≤ 1000000) : L.ref14_Sum f = some (sumV f) := by
  have : Ok (L.ref14_Sum f) fun r => r = sumV f := by
    unfold L.ref14_Sum
    refine .bind (.forS (fun k st => st = sumV (f.take k)) (by simp [sumV]) ?_ fun st h => h) ?_
    · rintro k x _ hx rfl
      unfold L.ref14_Sum.B2
      have := sumV_le_take h1 (k + 1)
      rw [sumV_take hx] at this ⊢
      exact .pure (by rw [wr_id (by omega)])
    · rintro _ rfl
      unfold L.ref14_Sum.J1
      exact .pure (by rw [List.take_of_length_le (Nat.le_refl _)])
  obtain ⟨r, h, rfl⟩ := this
  exact h

/-- The boundaries of a fill: where they lie. -/
theorem list15_ok {cap : Int} {f : List Piece} (h : FillOk cap f) (hc : 1 ≤ cap ∧ cap ≤ 1000) : ∃ bs, L.ref15_List f = some (bs, 0) ∧ bs.length = f.length - 1 ∧ ∀ i b, bs[i]? = some b → b.At = sumV (f.take (i + 1)) := by
  have hl := h.len; have hs := h.sum
  have : Ok (L.ref15_List f) fun r => r.2 = 0 ∧ r.1.length = f.length - 1 ∧ ∀ i b, r.1[i]? = some b → b.At = sumV (f.take (i + 1)) := by
    unfold L.ref15_List
    refine .bind' (.eq (ref14Valid h hc) (Ok.iteN (fun hh => by cases hh) fun _ => ?_))
    refine .bind (Q := fun d : List Boundary => d.length = f.length - 1 ∧ ∀ i b, d[i]? = some b → b.At = sumV (f.take (i + 1))) ?_ fun d hd => by unfold L.ref15_List.J1; exact .pure ⟨rfl, hd⟩
    refine .loop (fun st : List Boundary × Int => st.2 = (st.1.length : Int) + 1 ∧ st.1.length ≤ f.length - 1 ∧ ∀ i b, st.1[i]? = some b → b.At = sumV (f.take (i + 1))) (fun st => f.length - st.1.length) ⟨rfl, by simp, by simp⟩ (by dsimp only; omega) ?_
    rintro ⟨out, k⟩ ⟨h1, h2, h3⟩
    dsimp only at h1 h2 h3 ⊢
    subst h1
    unfold L.ref15_List.B2
    dsimp only
    refine Ok.iteD (fun hlt => ?_) fun hn => .pure ⟨by omega, h3⟩
    refine .bind' (.sub 0 (out.length + 1) rfl (by omega) (by omega) (by omega) ?_)
    simp only [List.drop_zero, Nat.sub_zero]
    have h4 := sumV_le_take h.vol (out.length + 1)
    refine .bind' (.eq (ref14Sum (fun p hp => h.vol p (List.mem_of_mem_take hp)) (by omega)) ?_)
    rw [wr_id (by omega)]
    refine .bind' (.ix out.length (by omega) (by omega) (.bind' (.ix (out.length + 1) (by omega) (by omega) (.bind' (.app (by simp; omega) (.pure ⟨⟨?_, ?_, ?_⟩, ?_⟩))))))
    · dsimp only; rw [wr_id (by omega)]; simp
    · dsimp only; simp; omega
    · intro i b hb
      dsimp only at hb
      rw [List.getElem?_append] at hb
      split at hb
      · exact h3 i b hb
      · rename_i hi
        have := (List.getElem?_eq_some_iff.1 hb).1
        simp at this
        have : i = out.length := by omega
        subst this
        simp at hb; subst hb; rfl
    · dsimp only; simp; omega
  obtain ⟨⟨bs, e⟩, h, h1, h2, h3⟩ := this
  dsimp only at h1 h2 h3
  subst h1
  exact ⟨bs, h, h2, h3⟩

theorem in_ok {l : List Int} {x : Int} (h : x ∈ l) : L.keep_In l x = some true := by
  have : Ok (L.keep_In l x) fun r => r = true := by
    unfold L.keep_In
    refine .bind (Q := Sum.elim (fun _ : Unit => False) fun b : Bool => b = true) (.forL (fun k _ => ∀ j, j < k → l[j]? ≠ some x) (fun b => b = true) (by simp) ?_ ?_ fun _ h => h) ?_
    · rintro k y st hy hI
      unfold L.keep_In.B2
      refine Ok.iteE (fun h => .pure rfl) fun h => .pure fun j hj => ?_
      by_cases hjk : j = k
      · subst hjk; rw [hy]; intro e; exact h (Option.some.inj e)
      · exact hI j (by omega)
    · intro st hI
      obtain ⟨i, hi⟩ := List.getElem?_of_mem h
      exact hI i (List.getElem?_eq_some_iff.1 hi).1 hi
    · rintro (_ | b) hb
      · exact hb.elim
      · exact .pure hb
  obtain ⟨r, h, rfl⟩ := this
  exact h

theorem any_take {α : Type} {P : α → Bool} {l : List α} {k : Nat} {x : α} (h : l[k]? = some x) : (l.take (k + 1)).any P = ((l.take k).any P || P x) := by
  rw [List.take_add_one, h]; simp

theorem up_count : ∀ {l m : List Int}, l.Pairwise (· < ·) → (∀ x, x ∈ l → x ∈ m) → l.length ≤ m.length
  | [], m, _, _ => by simp
  | a :: l, m, h, hm => by
    have ha := hm a (by simp)
    have := up_count (l := l) (m := m.erase a) (List.pairwise_cons.1 h).2 fun x hx => by
      have hax := (List.pairwise_cons.1 h).1 x hx
      exact (List.mem_erase_of_ne (by omega)).2 (hm x (by simp [hx]))
    rw [List.length_erase_of_mem ha] at this
    have := List.length_pos_of_mem ha
    simp; omega

theorem gradientBreaks (l : List Int) : L.law19_GradientBreaks l = some true := by
  have : Ok (L.law19_GradientBreaks l) fun x => x = true := by
    unfold L.law19_GradientBreaks
    refine .bind (new_ok l) fun d hd => .bind (world_ok hd) ?_
    rintro ⟨s, f, bs, p, d2⟩ ⟨hw, hd2⟩
    dsimp only at hw hd2 ⊢
    have hc := hw.seg.cap
    have hpl := hw.seg.points.len
    have hfl := hw.fill.len
    have hbl := brk_len s f
    have hb2 := brk_two hw.seg.points hc.1 hw.fill
    have hsum := hw.fill.sum
    obtain ⟨B, hB, hBl, hBa⟩ := list15_ok hw.fill hc
    have e1 : L.gradient_Breaks s f = some (brk s f, 0) := by
      unfold L.gradient_Breaks
      rw [filledOk hw.seg hw.fill, breaks_ok ⟨by omega, by omega⟩ hfl hw.fill.vol (by omega)]; rfl
    have hcap : s.Capacity ∈ s.Points.map (·.At) := by
      have hg : s.Points[s.Points.length - 1]? = some (s.Points[s.Points.length - 1]'(by omega)) := List.getElem?_eq_getElem _
      have := hw.seg.points.last _ hg
      exact List.mem_map.2 ⟨_, List.mem_of_getElem? hg, this⟩
    have hmem : ∀ x, x ∈ brk s f → x ∈ s.Points.map (·.At) ++ B.map (·.At) := by
      intro x hx
      rcases brk_mem.1 hx with ⟨p, hp, rfl⟩ | ⟨k, hk, rfl⟩
      · exact List.mem_append_left _ (List.mem_map.2 ⟨p, hp, rfl⟩)
      · by_cases hk1 : k < B.length
        · have hg : B[k]? = some (B[k]'hk1) := List.getElem?_eq_getElem _
          exact List.mem_append_right _ (List.mem_map.2 ⟨_, List.mem_of_getElem? hg, hBa k _ hg⟩)
        · rw [show f.take (k + 1) = f from List.take_of_length_le (by omega), hsum]
          exact List.mem_append_left _ hcap
    have hcount := up_count (brk_up s f) hmem
    simp only [List.length_append, List.length_map] at hcount
    have hl0 : ix (brk s f) 0 = some (0, 0) := ix_nat (brk_first hw.seg.points hw.fill)
    have hl1 := ix_nat (brk_last hw.seg.points hw.fill)
    refine .bind' (.eq e1 ?_)
    dsimp only
    refine Ok.iteU (fun h => absurd rfl h) fun _ => Ok.iteD (fun h => by omega) fun _ => ?_
    rw [hl0]
    simp only [Option.bind_some]
    refine Ok.iteU (fun h => absurd rfl h) fun _ => ?_
    rw [wr_id (x := ((brk s f).length : Int) - 1) (by omega), show ((brk s f).length : Int) - 1 = (((brk s f).length - 1 : Nat) : Int) by omega, hl1]
    simp only [Option.bind_some, bne_self_eq_false]
    unfold L.law19_GradientBreaks.J1
    simp only [Bool.false_eq_true, if_false]
    refine .bind' (.eq hB (.bind' (.forI (fun k st => st = (k : Int)) (fun _ => False) rfl ?_ ?_ fun _ h => h.elim)))
    · rintro k _ hk rfl
      have hx : (brk s f)[k]? = some ((brk s f)[k]'hk) := List.getElem?_eq_getElem _
      obtain ⟨x, hxe⟩ : ∃ x, x = (brk s f)[k]'hk := ⟨_, rfl⟩
      rw [← hxe] at hx
      have j10 : Ok (L.law19_GradientBreaks.J10 (s, f, bs, p, d2) (B, 0) (k : Int) (k, x) false) (Sum.elim (fun st : Int => st = ((k + 1 : Nat) : Int)) fun _ : Bool => False) := by
        unfold L.law19_GradientBreaks.J10
        simp only [Bool.false_eq_true, if_false]
        refine .bind (Q := fun st => st = s.Points.any fun p => p.At == x) (.forS (fun j st => st = (s.Points.take j).any fun p => p.At == x) (by simp) ?_ (by rintro _ rfl; rw [List.take_of_length_le (Nat.le_refl _)])) ?_
        · rintro j q _ hq rfl
          unfold L.law19_GradientBreaks.B15 L.law19_GradientBreaks.J16
          refine Ok.iteB (fun h => .pure ?_) fun h => .pure ?_
          · rw [any_take hq, h]; rfl
          · rw [any_take hq, h]; rfl
        · rintro _ rfl
          unfold L.law19_GradientBreaks.J11
          refine .bind (Q := fun st => st = ((s.Points.any fun p => p.At == x) || B.any fun b => b.At == x)) (.forJ (fun j st => st = ((s.Points.any fun p => p.At == x) || (B.take j).any fun b => b.At == x)) (by simp) ?_ (by rintro _ rfl; dsimp only; rw [List.take_of_length_le (Nat.le_refl _)])) ?_
          · rintro j _ hj rfl
            dsimp only at hj
            have hq : B[j]? = some (B[j]'hj) := List.getElem?_eq_getElem _
            unfold L.law19_GradientBreaks.B13 L.law19_GradientBreaks.J14
            refine .bind' (.eq (ix_nat hq) (Ok.iteB (fun h => .pure ?_) fun h => .pure ?_))
            · rw [any_take hq, ← Bool.or_assoc, h]; rfl
            · rw [any_take hq, ← Bool.or_assoc, h]; rfl
          · rintro _ rfl
            have ht : ((s.Points.any fun p => p.At == x) || B.any fun b => b.At == x) = true := by
              rcases List.mem_append.1 (hmem x (List.mem_of_getElem? hx)) with h | h
              · obtain ⟨q, hq, rfl⟩ := List.mem_map.1 h
                rw [List.any_eq_true.2 ⟨q, hq, by simp⟩]; rfl
              · obtain ⟨q, hq, rfl⟩ := List.mem_map.1 h
                rw [Bool.or_comm, List.any_eq_true.2 ⟨q, hq, by simp⟩]; rfl
            rw [ht]
            unfold L.law19_GradientBreaks.J12 L.law19_GradientBreaks.J9
            simp only [Bool.not_true, Bool.false_eq_true, if_false]
            exact .pure (by simp only [Sum.elim_inl]; rw [wr_id (by omega)]; omega)
      unfold L.law19_GradientBreaks.B8
      refine .bind' (.eq (ix_nat hx) (Ok.iteD (fun h0 => ?_) fun _ => j10))
      have hj : (brk s f)[k - 1]? = some ((brk s f)[k - 1]'(by omega)) := List.getElem?_eq_getElem _
      rw [show wr ((k : Int) - 1) = ((k - 1 : Nat) : Int) by rw [wr_id (by omega)]; omega]
      refine .bind' (.eq (ix_nat hj) ?_)
      have := up_get (brk_up s f) (show k - 1 < k by omega) hj hx
      dsimp only
      rw [show decide (x ≤ (brk s f)[k - 1]) = false by simp; omega]
      exact j10
    · rintro _ rfl
      simp only [Sum.elim_inl]
      unfold L.law19_GradientBreaks.J2
      refine .bind' (.forL (fun _ _ => True) (fun _ => False) trivial ?_ ?_ fun _ h => h.elim)
      · rintro k q st hq _
        unfold L.law19_GradientBreaks.B7
        refine .bind' (.eq (in_ok (brk_mem.2 (.inl ⟨q, List.mem_of_getElem? hq, rfl⟩))) (Ok.iteN (fun h => by cases h) fun _ => .pure trivial))
      · rintro _ _
        simp only [Sum.elim_inl]
        unfold L.law19_GradientBreaks.J3
        refine .bind' (.forI (fun _ _ => True) (fun _ => False) trivial ?_ ?_ fun _ h => h.elim)
        · rintro k st hk _
          dsimp only at hk
          have hq : B[k]? = some (B[k]'hk) := List.getElem?_eq_getElem _
          unfold L.law19_GradientBreaks.B6
          refine .bind' (.eq (ix_nat hq) (.bind' (.eq (in_ok (brk_mem.2 (.inr ⟨k, by omega, hBa k _ hq⟩))) (Ok.iteN (fun h => by cases h) fun _ => .pure trivial))))
        · rintro _ _
          simp only [Sum.elim_inl]
          unfold L.law19_GradientBreaks.J4 L.law19_GradientBreaks.J5
          refine Ok.iteD (fun _ => .bind' (.eq awake19 (.pure rfl))) fun hn => ?_
          exfalso
          apply hn
          dsimp only
          rw [wr_id (by omega)]
          omega
  obtain ⟨x, h, rfl⟩ := this
  exact h

end Go.Proofs.YtncfbhnecmnfpaaGreatDoor
