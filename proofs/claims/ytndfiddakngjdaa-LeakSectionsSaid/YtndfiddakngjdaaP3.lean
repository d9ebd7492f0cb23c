/- The networks that a reader of numbers gives are valid. No condition. -/
import Derived.Test.YtndfiddakngjdaaP2
namespace Go.Proofs.Ytndfiddakngjdaa
set_option linter.unusedVariables false
set_option linter.unusedSimpArgs false
open Go.Aw

theorem app_all {α : Type} {P : Nat → α → Prop} {l : List α} {x : α} (h : ∀ k s, l[k]? = some s → P k s) (hx : P l.length x) : ∀ k s, (l ++ [x])[k]? = some s → P k s := by
  intro k s hs
  rw [List.getElem?_append] at hs
  split at hs
  · exact h k s hs
  · have h2 := (List.getElem?_eq_some_iff.1 hs).1
    simp at h2
    have : k = l.length := by omega
    subst this
    simp at hs; subst hs; exact hx

theorem app_up {α : Type} {f : α → Int} {l : List α} {x : α} (h : ∀ (i j : Nat) (p q : α), i < j → l[i]? = some p → l[j]? = some q → f p < f q) (hx : ∀ (k : Nat) (p : α), l[k]? = some p → f p < f x) :
    ∀ (i j : Nat) (p q : α), i < j → (l ++ [x])[i]? = some p → (l ++ [x])[j]? = some q → f p < f q := by
  intro i j p q hij hp hq
  have hj := (List.getElem?_eq_some_iff.1 hq).1
  simp at hj
  rw [List.getElem?_append_left (by omega)] at hp
  rw [List.getElem?_append] at hq
  split at hq
  · exact h i j p q hij hp hq
  · have : j = l.length := by omega
    subst this
    simp at hq; subst hq; exact hx i p hp

structure PortsInv (nodes : Nat) (i : Int) (ports : List Port) (sts : List Station) : Prop where
  i0 : 0 ≤ i ∧ i ≤ (nodes : Int)
  pl : (ports.length : Int) ≤ i
  p1 : 0 < i → 1 ≤ ports.length
  p2 : i = (nodes : Int) → 2 ≤ ports.length
  po : ∀ k s, ports[k]? = some s → PortOk nodes k s ∧ s.Node < i
  pu : ∀ (i j : Nat) (p q : Port), i < j → ports[i]? = some p → ports[j]? = some q → p.Node < q.Node
  sl : (sts.length : Int) ≤ i
  so : ∀ k s, sts[k]? = some s → StOk nodes k s ∧ s.Node < i
  su : ∀ (i j : Nat) (p q : Station), i < j → sts[i]? = some p → sts[j]? = some q → p.Node < q.Node

theorem net_ok {s : Src} (hs : SrcOk s) : Ok (L.keep_Src_Network s) fun r => NetOk r.1 ∧ SrcOk r.2 := by
  unfold L.keep_Src_Network
  refine .bind (pick_ok hs (by decide) (by decide)) fun r5 h5 => ?_
  refine .bind (pick_ok h5.1 (by decide) (by decide)) fun r8 h8 => ?_
  refine .bind (range_ok h8.1 (by decide) (by decide) (by decide)) fun r650 h650 => ?_
  have c5 := h5.2; have c8 := h8.2
  simp only [List.mem_cons, List.not_mem_nil, or_false] at c5 c8
  refine .bind (Q := fun d : List Int × Int × List ByteArray => SrcOk ⟨d.1, d.2.1⟩ ∧ (2 ≤ d.2.2.length ∧ d.2.2.length ≤ 6) ∧ ∀ k x, d.2.2[k]? = some x → x = nm 110 k) ?_ ?_
  · refine .loop (fun st : List ByteArray × Int => 0 ≤ st.2 ∧ (st.1.length : Int) + st.2 = r650.1 ∧ ∀ k x, st.1[k]? = some x → x = nm 110 k) (fun st => st.2.toNat) ⟨by dsimp only; omega, by simp, by simp⟩ (by dsimp only; omega) ?_
    rintro ⟨nodes, c⟩ ⟨i1, i2, i3⟩
    dsimp only at i1 i2 i3
    unfold L.keep_Src_Network.B12
    refine Ok.iteD (fun h => ?_) fun h => .pure ⟨h650.1, by dsimp only at h ⊢; omega, i3⟩
    dsimp only at h ⊢
    refine .bind' (.eq (name_ok (by omega)) (.bind' (.app (by simp; omega) (.pure ?_))))
    rw [wr_id (by omega)]
    exact ⟨⟨by dsimp only; omega, by simp; omega, app_all i3 rfl⟩, by dsimp only; omega⟩
  rintro ⟨L_, At, nodes⟩ ⟨hs, hn, hnm⟩
  dsimp only at hs hn hnm
  unfold L.keep_Src_Network.J1
  -- the segments of the chain
  refine .bind (Q := fun d : List Int × Int × List Segment => SrcOk ⟨d.1, d.2.1⟩ ∧ d.2.2.length = nodes.length - 1 ∧ ∀ k x, d.2.2[k]? = some x → SegOk nodes.length k x) ?_ ?_
  · refine .loop (fun st : List Int × Int × List Segment × Int => SrcOk ⟨st.1, st.2.1⟩ ∧ (st.2.2.1.length : Int) = st.2.2.2 ∧ st.2.2.1.length ≤ nodes.length - 1 ∧ ∀ k x, st.2.2.1[k]? = some x → SegOk nodes.length k x) (fun st => nodes.length - st.2.2.1.length) ⟨hs, by simp, by simp, by simp⟩ (by dsimp only; omega) ?_
    rintro ⟨L_, At, segs, i⟩ ⟨i1, i2, i3, i4⟩
    dsimp only at i1 i2 i3 i4
    unfold L.keep_Src_Network.B11
    dsimp only
    simp (disch := omega) only [wr_id]
    refine Ok.iteD (fun h => ?_) fun h => .pure ⟨i1, by dsimp only; omega, i4⟩
    refine .bind (seg_ok i1 (nodes := nodes.length) (by omega) (by omega) (by omega) (by omega)) fun r641 h641 => ?_
    refine .bind' (.app (by simp; omega) (.pure ⟨⟨h641.2, by simp; omega, by simp; omega, app_all i4 h641.1⟩, by simp; omega⟩))
  rintro ⟨L_, At, segs⟩ ⟨hs, hsl, hss⟩
  dsimp only at hs hsl hss
  unfold L.keep_Src_Network.J2
  refine .bind (n_ok hs (by decide) (by decide)) fun r531 h531 => ?_
  refine .bind (Q := fun d : List Int × Int × List Segment => SrcOk ⟨d.1, d.2.1⟩ ∧ (nodes.length - 1 ≤ d.2.2.length ∧ d.2.2.length ≤ 8) ∧ ∀ k x, d.2.2[k]? = some x → SegOk nodes.length k x) ?_ ?_
  · refine .loop (fun st : List Int × Int × List Segment × Int => SrcOk ⟨st.1, st.2.1⟩ ∧ 0 ≤ st.2.2.2 ∧ (st.2.2.1.length : Int) + st.2.2.2 ≤ 8 ∧ nodes.length - 1 ≤ st.2.2.1.length ∧ ∀ k x, st.2.2.1[k]? = some x → SegOk nodes.length k x) (fun st => st.2.2.2.toNat)
      ⟨h531.1, h531.2.1, by dsimp only; omega, by dsimp only; omega, hss⟩ (by dsimp only; omega) ?_
    rintro ⟨L_, At, segs, i⟩ ⟨i1, i2, i3, i4, i5⟩
    dsimp only at i1 i2 i3 i4 i5
    unfold L.keep_Src_Network.B10
    dsimp only
    simp (disch := omega) only [wr_id]
    refine Ok.iteD (fun h => ?_) fun h => .pure ⟨i1, by dsimp only; omega, i5⟩
    refine .bind (n_ok i1 (by omega) (by omega)) fun r589 h589 => ?_
    simp (disch := omega) only [wr_id]
    refine .bind (range_ok h589.1 (by omega) (by omega) (by omega)) fun r591 h591 => ?_
    refine .bind (seg_ok h591.1 (nodes := nodes.length) (by omega) (by omega) (by omega) (by omega)) fun r593 h593 => ?_
    refine .bind' (.app (by simp; omega) (.pure ⟨⟨h593.2, by dsimp only; omega, by simp; omega, by simp; omega, app_all i5 h593.1⟩, by dsimp only; omega⟩))
  rintro ⟨L_, At, segs⟩ ⟨hs, hsl, hss⟩
  dsimp only at hs hsl hss
  unfold L.keep_Src_Network.J3
  refine .bind (Q := fun d : List Int × Int × List Port × List Station => SrcOk ⟨d.1, d.2.1⟩ ∧ PortsInv nodes.length (nodes.length : Int) d.2.2.1 d.2.2.2) ?_ ?_
  · refine .loop (fun st : List Int × Int × List Port × List Station × Int => SrcOk ⟨st.1, st.2.1⟩ ∧ PortsInv nodes.length st.2.2.2.2 st.2.2.1 st.2.2.2.1) (fun st => nodes.length - st.2.2.2.2.toNat)
      ⟨hs, by dsimp only; omega, by simp, by simp, by dsimp only; omega, by simp, by simp, by simp, by simp, by simp⟩ (by dsimp only; omega) ?_
    rintro ⟨L_, At, ports, sts, i⟩ ⟨i1, iv⟩
    dsimp only at i1 iv
    have hi := iv.i0
    have j6 : ∀ (j : List Int × Int × List Port × List Station), SrcOk ⟨j.1, j.2.1⟩ → PortsInv nodes.length (i + 1) j.2.2.1 j.2.2.2 → i < (nodes.length : Int) →
        Ok (L.keep_Src_Network.J6 (L_, At, ports, sts, i) j) (Sum.elim (fun st => (SrcOk ⟨st.1, st.2.1⟩ ∧ PortsInv nodes.length st.2.2.2.2 st.2.2.1 st.2.2.2.1) ∧ nodes.length - st.2.2.2.2.toNat < nodes.length - i.toNat) fun d => SrcOk ⟨d.1, d.2.1⟩ ∧ PortsInv nodes.length (nodes.length : Int) d.2.2.1 d.2.2.2) := by
      intro j h1 h2 h3
      unfold L.keep_Src_Network.J6
      dsimp only
      rw [wr_id (by omega)]
      exact .pure ⟨⟨h1, h2⟩, by dsimp only; omega⟩
    have j7 : ∀ (j : List Int × Int × List Port), SrcOk ⟨j.1, j.2.1⟩ → ((∀ sts', (sts'.length : Int) ≤ i + 1 → (∀ k s, sts'[k]? = some s → StOk nodes.length k s ∧ s.Node < i + 1) →
          (∀ (i j : Nat) (p q : Station), i < j → sts'[i]? = some p → sts'[j]? = some q → p.Node < q.Node) → PortsInv nodes.length (i + 1) j.2.2 sts')) → i < (nodes.length : Int) →
        Ok (L.keep_Src_Network.J7 (L_, At, nodes) (L_, At, ports, sts, i) j) (Sum.elim (fun st => (SrcOk ⟨st.1, st.2.1⟩ ∧ PortsInv nodes.length st.2.2.2.2 st.2.2.1 st.2.2.2.1) ∧ nodes.length - st.2.2.2.2.toNat < nodes.length - i.toNat) fun d => SrcOk ⟨d.1, d.2.1⟩ ∧ PortsInv nodes.length (nodes.length : Int) d.2.2.1 d.2.2.2) := by
      intro j h1 h2 h3
      have old := h2 sts (by have := iv.sl; omega) (fun k s hk => ⟨(iv.so k s hk).1, by have := (iv.so k s hk).2; omega⟩) iv.su
      unfold L.keep_Src_Network.J7
      refine Ok.iteD (fun h => ?_) fun h => ?_
      · refine .bind (n_ok h1 (by decide) (by decide)) fun r507 h507 => ?_
        unfold L.keep_Src_Network.J8
        refine Ok.iteB (fun _ => ?_) fun _ => j6 (_, _, _, _) h507.1 old h3
        have hsl' := iv.sl
        refine .bind' (.eq (name_ok (by dsimp only; omega)) ?_)
        refine .bind (pick_ok h507.1 (by decide) (by decide)) fun r493 h493 => ?_
        refine .bind (pick_ok h493.1 (by decide) (by decide)) fun r496 h496 => ?_
        refine .bind (pick_ok h496.1 (by decide) (by decide)) fun r499 h499 => ?_
        have c1 := h493.2; have c2 := h496.2; have c3 := h499.2
        simp only [List.mem_cons, List.not_mem_nil, or_false] at c1 c2 c3
        refine .bind' (.app (by simp; omega) (j6 (_, _, _, _) h499.1 (h2 _ (by simp; omega) ?_ ?_) h3))
        · exact app_all (P := fun k s => StOk nodes.length k s ∧ s.Node < i + 1) (fun k s hk => ⟨(iv.so k s hk).1, by have := (iv.so k s hk).2; omega⟩) ⟨⟨rfl, ⟨by dsimp only; omega, by dsimp only; omega⟩, by dsimp only; omega, by dsimp only; omega, by dsimp only; omega⟩, by dsimp only; omega⟩
        · exact app_up (f := Station.Node) iv.su fun k p hk => (iv.so k p hk).2
      · unfold L.keep_Src_Network.J8
        refine Ok.iteB (fun h => by cases h) fun _ => j6 (_, _, _, _) h1 old h3
    have j9 : ∀ (j : List Int × Int × Bool), SrcOk ⟨j.1, j.2.1⟩ → (i = 0 ∨ i = (nodes.length : Int) - 1 → j.2.2 = true) → i < (nodes.length : Int) →
        Ok (L.keep_Src_Network.J9 (L_, At, nodes) (L_, At, ports, sts, i) j) (Sum.elim (fun st => (SrcOk ⟨st.1, st.2.1⟩ ∧ PortsInv nodes.length st.2.2.2.2 st.2.2.1 st.2.2.2.1) ∧ nodes.length - st.2.2.2.2.toNat < nodes.length - i.toNat) fun d => SrcOk ⟨d.1, d.2.1⟩ ∧ PortsInv nodes.length (nodes.length : Int) d.2.2.1 d.2.2.2) := by
      intro j h1 h2 h3
      have hpl := iv.pl
      have hp1 := iv.p1
      unfold L.keep_Src_Network.J9
      refine Ok.iteB (fun _ => ?_) fun hb => j7 (_, _, _) h1 (fun sts' q1 q2 q3 => ?_) h3
      · refine .bind' (.eq (name_ok (by dsimp only; omega)) ?_)
        refine .bind (pick_ok h1 (by decide) (by decide)) fun r518 h518 => ?_
        have c1 := h518.2
        simp only [List.mem_cons, List.not_mem_nil, or_false] at c1
        refine .bind' (.app (by simp; omega) (j7 (_, _, _) h518.1 (fun sts' q1 q2 q3 => ⟨by omega, by simp; omega, by simp, fun _ => by simp; omega, ?_, ?_, q1, q2, q3⟩) h3))
        · exact app_all (P := fun k s => PortOk nodes.length k s ∧ s.Node < i + 1) (fun k s hk => ⟨(iv.po k s hk).1, by have := (iv.po k s hk).2; omega⟩) ⟨⟨rfl, ⟨by dsimp only; omega, by dsimp only; omega⟩, by dsimp only; omega⟩, by dsimp only; omega⟩
        · exact app_up (f := Port.Node) iv.pu fun k p hk => (iv.po k p hk).2
      · have hi0 : ¬ (i = 0 ∨ i = (nodes.length : Int) - 1) := fun h => by rw [h2 h] at hb; cases hb
        exact ⟨by omega, by dsimp only; omega, fun _ => by dsimp only; omega, fun _ => by omega, fun k s hk => ⟨(iv.po k s hk).1, by have := (iv.po k s hk).2; omega⟩, iv.pu, q1, q2, q3⟩
    unfold L.keep_Src_Network.B5
    dsimp only
    rw [wr_id (by omega)]
    refine Ok.iteD (fun h => ?_) fun h => .pure ⟨i1, ?_⟩
    · refine Ok.iteE (fun h0 => j9 (_, _, _) i1 (fun _ => rfl) (by omega)) fun h0 => Ok.iteE (fun h1 => j9 (_, _, _) i1 (fun _ => rfl) (by omega)) fun h1 => ?_
      refine .bind (n_ok i1 (by decide) (by decide)) fun r527 h527 => j9 (_, _, _) h527.1 (fun h => by omega) (by omega)
    · have : i = (nodes.length : Int) := by omega
      rw [← this]; exact iv
  rintro ⟨L_, At, ports, sts⟩ ⟨hs, iv⟩
  dsimp only at hs iv
  unfold L.keep_Src_Network.J4
  have := iv.pl; have := iv.sl
  exact .pure ⟨⟨hn, hnm, hsl, hss, ⟨iv.p2 rfl, by dsimp only; omega⟩, fun k s hk => (iv.po k s hk).1, iv.pu, by dsimp only; omega, fun k s hk => (iv.so k s hk).1, iv.su, by dsimp only; omega, by dsimp only; omega⟩, hs⟩

end Go.Proofs.Ytndfiddakngjdaa
