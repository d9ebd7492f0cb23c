/- The segments and networks that a reader of numbers gives are valid. No condition. -/
import Derived.Test.YtncfbhnecmnfpaaGreatDoorP1
namespace Go.Proofs.YtncfbhnecmnfpaaGreatDoor
set_option linter.unusedVariables false
set_option linter.unusedSimpArgs false
open Go.Aw

/-- Points of a profile so far. -/
structure PInv (l : List Point) (at_ : Int) : Prop where
  len : 1 ≤ l.length
  first : ∀ p, l[0]? = some p → p.At = 0
  last : ∀ p, l[l.length - 1]? = some p → p.At = at_
  up : ∀ i p q, l[i]? = some p → l[i + 1]? = some q → p.At < q.At
  height : ∀ p, p ∈ l → -500 ≤ p.Height ∧ p.Height ≤ 5000
  limit : ∀ p, p ∈ l → 0 ≤ p.Limit ∧ p.Limit ≤ 100000000

theorem PInv.append {l : List Point} {at_ : Int} (h : PInv l at_) {p : Point} (h1 : at_ < p.At) (h2 : -500 ≤ p.Height ∧ p.Height ≤ 5000) (h3 : 0 ≤ p.Limit ∧ p.Limit ≤ 100000000) : PInv (l ++ [p]) p.At := by
  have hl := h.len
  refine ⟨by simp, fun q hq => h.first q ?_, fun q hq => ?_, fun i a b ha hb => ?_, fun q hq => ?_, fun q hq => ?_⟩
  · rw [List.getElem?_append_left (by omega)] at hq; exact hq
  · rw [List.getElem?_append_right (by simp)] at hq; simp at hq; rw [hq]
  · rw [List.getElem?_append] at ha hb
    split at hb
    · rw [if_pos (by omega)] at ha; exact h.up i a b ha hb
    · rename_i hi
      have hb' := (List.getElem?_eq_some_iff.1 hb).1
      simp at hb'
      have : i + 1 = l.length := by omega
      rw [if_pos (by omega)] at ha
      have h4 := h.last a (by rw [show l.length - 1 = i by omega]; exact ha)
      simp [this] at hb
      rw [← hb]; omega
  · rcases List.mem_append.1 hq with hq | hq
    · exact h.height q hq
    · simp at hq; subst hq; exact h2
  · rcases List.mem_append.1 hq with hq | hq
    · exact h.limit q hq
    · simp at hq; subst hq; exact h3

theorem PInv.done {l : List Point} {at_ : Int} (h : PInv l at_) (h1 : 2 ≤ l.length ∧ l.length ≤ 8) : PointsOk at_ l := ⟨h1, h.first, h.last, h.up, h.height, h.limit⟩

theorem nat_of {n : Int} (h : 0 ≤ n) : ∃ k : Nat, n = (k : Int) := ⟨n.toNat, by omega⟩

theorem seg_ok {s : Src} (hs : SrcOk s) {nodes k : Nat} (hk : k < 26) {a b : Int} (ha : 0 ≤ a ∧ a < (nodes : Int)) (hb : 0 ≤ b ∧ b < (nodes : Int)) (hab : a ≠ b) :
    Ok (L.keep_Src_Segment s (k : Int) a b) fun r => SegOk nodes k r.1 ∧ SrcOk r.2 := by
  have main : ∀ (j : List Int × Int × Int × Int), SrcOk ⟨j.1, j.2.1⟩ → 0 ≤ j.2.2.1 ∧ j.2.2.1 < (nodes : Int) → 0 ≤ j.2.2.2 ∧ j.2.2.2 < (nodes : Int) → j.2.2.1 ≠ j.2.2.2 →
      Ok (L.keep_Src_Segment.J1 (k : Int) j) fun r => SegOk nodes k r.1 ∧ SrcOk r.2 := by
    intro j hs h1 h2 h3
    unfold L.keep_Src_Segment.J1
    refine .bind' (.eq (name_ok hk) ?_)
    refine .bind (pick_ok hs (by decide) (by decide)) fun r11 h11 => ?_
    refine .bind (pick_ok h11.1 (by decide) (by decide)) fun r14 h14 => ?_
    refine .bind (pick_ok h14.1 (by decide) (by decide)) fun r17 h17 => ?_
    refine .bind (pick_ok h17.1 (by decide) (by decide)) fun r22 h22 => ?_
    refine .bind (range_ok h22.1 (by decide) (by decide) (by decide)) fun r25 h25 => ?_
    have c11 := h11.2; have c14 := h14.2; have c17 := h17.2; have c22 := h22.2
    simp only [List.mem_cons, List.not_mem_nil, or_false] at c11 c14 c17 c22
    refine .bind' (.app (by simp) ?_)
    refine .bind (Q := fun d : List Int × Int × List Point => SrcOk ⟨d.1, d.2.1⟩ ∧ ∃ at_, PInv d.2.2 at_ ∧ at_ < r11.1 ∧ d.2.2.length ≤ 7) ?_ ?_
    · refine .loop (fun st => SrcOk ⟨st.1, st.2.1⟩ ∧ PInv st.2.2.1 st.2.2.2 ∧ 0 ≤ st.2.2.2 ∧ st.2.2.2 < r11.1 ∧ st.2.2.1.length ≤ 7) (fun st => 7 - st.2.2.1.length)
        ⟨h25.1, ⟨by simp, by simp, by simp, by simp, by simp; omega, by simp; omega⟩, by simp, by simp; omega, by simp⟩ (by dsimp only; omega) ?_
      rintro ⟨L_, At, pts, at_⟩ ⟨i1, i2, i3, i4, i5⟩
      dsimp only at i1 i2 i3 i4 i5 ⊢
      have j4 : ∀ (x : List Int × Int × Bool), SrcOk ⟨x.1, x.2.1⟩ → (x.2.2 = true → pts.length < 7) → Ok (L.keep_Src_Segment.J4 r11 r22 (L_, At, pts, at_) x) (Sum.elim (fun st => (SrcOk ⟨st.1, st.2.1⟩ ∧ PInv st.2.2.1 st.2.2.2 ∧ 0 ≤ st.2.2.2 ∧ st.2.2.2 < r11.1 ∧ st.2.2.1.length ≤ 7) ∧ 7 - st.2.2.1.length < 7 - pts.length) fun d => SrcOk ⟨d.1, d.2.1⟩ ∧ ∃ at_, PInv d.2.2 at_ ∧ at_ < r11.1 ∧ d.2.2.length ≤ 7) := by
        intro x hx hl
        unfold L.keep_Src_Segment.J4
        refine Ok.iteB (fun hb => ?_) fun _ => .pure ⟨hx, at_, i2, i4, i5⟩
        have hl := hl hb
        refine .bind (range_ok hx (by decide) (by decide) (by decide)) fun r197 h197 => ?_
        dsimp only
        rw [wr_id (by omega)]
        refine Ok.iteD (fun _ => .pure ⟨h197.1, at_, i2, i4, i5⟩) fun hlt => ?_
        refine .bind (range_ok h197.1 (by decide) (by decide) (by decide)) fun r201 h201 => ?_
        refine .bind (pick_ok h201.1 (by decide) (by decide)) fun r204 h204 => ?_
        have c204 := h204.2
        simp only [List.mem_cons, List.not_mem_nil, or_false] at c204
        refine .bind (n_ok h204.1 (by decide) (by decide)) fun r206 h206 => ?_
        refine .bind' (.app (by simp; omega) (.pure ⟨⟨h206.1, ?_, by dsimp only; omega, by dsimp only; omega, by simp; omega⟩, by simp; omega⟩))
        have hh : -50 ≤ r201.1 * r204.1 ∧ r201.1 * r204.1 ≤ 600 := by
          rcases c204 with h | h | h <;> rw [h] <;> omega
        refine i2.append ?_ ?_ ?_ <;> simp (disch := omega) only [wr_id] <;> omega
      unfold L.keep_Src_Segment.B3
      refine Ok.iteD (fun h => ?_) fun h => ?_
      · refine .bind (n_ok i1 (by decide) (by decide)) fun r213 h213 => j4 (_, _, _) h213.1 fun _ => by dsimp only at h; omega
      · exact j4 (_, _, _) i1 (by simp)
    · rintro ⟨dl, da, dp⟩ ⟨hd, at_, hp, hlt, hlen⟩
      dsimp only at hd hp hlen
      unfold L.keep_Src_Segment.J2
      refine .bind (range_ok hd (by decide) (by decide) (by decide)) fun r106 h106 => ?_
      have h1l := hp.len
      refine .bind' (.app (by simp; omega) (.pure ⟨⟨rfl, ⟨h1.1, h1.2, h2.1, h2.2, h3⟩, by dsimp only; omega, by dsimp only; omega, by dsimp only; omega, ?_⟩, h106.1⟩))
      exact (hp.append (p := ⟨r11.1, r106.1, r22.1⟩) hlt (by dsimp only; omega) (by dsimp only; omega)).done (by simp; omega)
  unfold L.keep_Src_Segment
  refine .bind (n_ok hs (by decide) (by decide)) fun r hr => ?_
  exact Ok.iteE (fun _ => main _ hr.1 hb ha (Ne.symm hab)) fun _ => main _ hr.1 ha hb hab

end Go.Proofs.YtncfbhnecmnfpaaGreatDoor
