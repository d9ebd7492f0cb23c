/- What the reference's check of a plan says; the law of the third plan. No condition. -/
import Derived.Test.YtndfiddakngjdaaP9
import Derived.Test.YtndfiddakngjdaaD6
namespace Go.Proofs.Ytndfiddakngjdaa
set_option linter.unusedVariables false
set_option linter.unusedSimpArgs false
open Go.Aw

theorem ref12Names_ok {n : Network} (h1 : n.Segments.length ≤ 1000) (h2 : n.Ports.length ≤ 1000) (h3 : n.Stations.length ≤ 1000) :
    Ok (L.ref12_names n) fun r => r.l = [n.Nodes, n.Segments.map (·.Name), n.Ports.map (·.Name), n.Stations.map (·.Name)] := by
  unfold L.ref12_names
  refine .bind (maps_ok (g := (·.Name)) (fun _ _ _ => rfl) h1) ?_
  rintro _ rfl
  unfold L.ref12_names.J1
  refine .bind (maps_ok (g := (·.Name)) (fun _ _ _ => rfl) h2) ?_
  rintro _ rfl
  unfold L.ref12_names.J2
  refine .bind (maps_ok (g := (·.Name)) (fun _ _ _ => rfl) h3) ?_
  rintro _ rfl
  unfold L.ref12_names.J3
  exact .pure rfl

theorem Ok.ixs {s : ByteArray} {i : Int} {P : Nat × Int → Prop} (h0 : 0 ≤ i) (h1 : i < (s.size : Int)) (h : ∀ (k : Nat) (x : Int), i = (k : Int) → 0 ≤ x ∧ x ≤ 255 → P (k, x)) : Ok (ixs s i) P := by
  unfold Aw.ixs
  refine ⟨_, if_pos ⟨h0, h1⟩, h _ _ (by omega) ?_⟩
  have := (s.data.getD i.toNat 0).toNat_lt
  omega

theorem ref03Name_ok {s : ByteArray} (hs : s.size ≤ 1000000) : Ok (L.ref03_Name s) fun _ => True := by
  have j1 : ∀ b, Ok (L.ref03_Name.J1 s b) fun _ => True := by
    intro b
    unfold L.ref03_Name.J1
    refine Ok.iteB (fun _ => .pure trivial) fun _ => .bind (Q := fun _ => True) ?_ ?_
    · refine .loop (fun st : Int => 0 ≤ st ∧ st ≤ (s.size : Int)) (fun st => s.size - st.toNat) ⟨by omega, by omega⟩ (by omega) ?_
      rintro st ⟨h0, h1⟩
      unfold L.ref03_Name.B3
      refine Ok.iteD (fun hlt => ?_) fun _ => .pure trivial
      have j4 : ∀ b, Ok (L.ref03_Name.J4 st b) (Sum.elim (fun st' : Int => (0 ≤ st' ∧ st' ≤ (s.size : Int)) ∧ s.size - st'.toNat < s.size - st.toNat) fun _ => True) := by
        intro b
        unfold L.ref03_Name.J4
        refine Ok.iteB (fun _ => .pure trivial) fun _ => .pure ?_
        rw [wr_id (by omega)]
        exact ⟨⟨by omega, by omega⟩, by omega⟩
      refine .bind' (Ok.ixs h0 hlt fun k x _ _ => ?_)
      refine Ok.iteD (fun _ => Ok.iteD (fun _ => j4 _) fun _ => Ok.iteD (fun _ => j4 _) fun _ => j4 _) fun _ => Ok.iteD (fun _ => Ok.iteD (fun _ => j4 _) fun _ => Ok.iteD (fun _ => j4 _) fun _ => j4 _) fun _ => j4 _
    · rintro (b | b) _
      · exact .pure trivial
      · exact .pure trivial
  unfold L.ref03_Name
  refine Ok.iteD (fun _ => j1 _) fun _ => Ok.iteD (fun _ => j1 _) fun _ => .bind' (Ok.ixs (by omega) (by omega) fun k x _ _ => ?_)
  exact Ok.iteD (fun _ => j1 _) fun _ => j1 _

theorem ref12Twice_ok {l : List ByteArray} (hl : l.length ≤ 1000) : Ok (L.ref12_twice l) fun _ => True := by
  unfold L.ref12_twice
  refine .bind' (.forL (fun _ _ => True) (fun _ => True) trivial ?_ (fun _ _ => .pure trivial) fun _ _ => .pure trivial)
  intro k x _ hx _
  have hkl := (List.getElem?_eq_some_iff.1 hx).1
  unfold L.ref12_twice.B2
  refine .bind (Q := fun _ => True) ?_ ?_
  · refine .loop (fun st : Int => 0 ≤ st ∧ st ≤ (k : Int)) (fun st => k - st.toNat) ⟨by omega, by omega⟩ (by omega) ?_
    rintro st ⟨h0, h1⟩
    unfold L.ref12_twice.B4
    refine Ok.iteD (fun hlt => .bind' (.ix' h0 (by omega) fun j y _ _ => Ok.iteB (fun _ => .pure trivial) fun _ => .pure ?_)) fun _ => .pure trivial
    rw [wr_id (by omega)]
    exact ⟨⟨by omega, by omega⟩, by omega⟩
  · rintro (b | b) _
    · exact .pure trivial
    · exact .pure trivial

theorem ref12Proper_ok {s : Segment} (h1 : 1 ≤ s.Points.length) (h2 : s.Points.length ≤ 1000) : Ok (L.ref12_proper s) fun _ => True := by
  have j1 : ∀ b, Ok (L.ref12_proper.J1 s b) fun _ => True := by
    intro b
    unfold L.ref12_proper.J1
    refine Ok.iteB (fun _ => .pure trivial) fun _ => .bind' (.forL (fun _ _ => True) (fun _ => True) trivial ?_ (fun _ _ => .pure trivial) fun _ _ => .pure trivial)
    intro k x _ hx _
    have hkl := (List.getElem?_eq_some_iff.1 hx).1
    have j4 : ∀ b, Ok (L.ref12_proper.J4 b) (Sum.elim (fun _ => True) fun _ => True) := by
      intro b
      unfold L.ref12_proper.J4
      exact Ok.iteB (fun _ => .pure trivial) fun _ => .pure trivial
    unfold L.ref12_proper.B3
    refine Ok.iteD (fun h0 => ?_) fun _ => Ok.iteB (fun _ => j4 _) fun _ => j4 _
    rw [wr_id (by omega)]
    refine .bind' (.ix' (by omega) (by omega) fun j y _ _ => Ok.iteD (fun _ => j4 _) fun _ => Ok.iteB (fun _ => j4 _) fun _ => j4 _)
  unfold L.ref12_proper
  refine Ok.iteB (fun _ => j1 _) fun _ => Ok.iteB (fun _ => j1 _) fun _ => Ok.iteB (fun _ => j1 _) fun _ => Ok.iteB (fun _ => j1 _) fun _ => .bind' (.ix' (by omega) (by omega) fun j y _ _ => Ok.iteB (fun _ => j1 _) fun _ => ?_)
  rw [wr_id (by omega)]
  exact .bind' (.ix' (by omega) (by omega) fun j y _ _ => j1 _)

theorem ref12Check_ok {n : Network} (h : NetOk n) : Ok (L.ref12_Check n) fun _ => True := by
  have h1 := h.nodes; have h2 := h.segs1; have h3 := h.ports1; have h4 := h.sts1
  have T : ∀ {α β : Type} {l : List α} {f : Nat → α → Unit → Option (Unit ⊕ β)} {K : Unit ⊕ β → Option β} {P : β → Prop}, (∀ k x, l[k]? = some x → Ok (f k x ()) fun _ => True) → (∀ u, Ok (K u) P) → Ok ((forL f 0 l ()).bind K) P := by
    intro α β l f K P hf hK
    refine .bind' (.forL (fun _ _ => True) (fun _ => True) trivial (fun k x st hx _ => ?_) (fun _ _ => hK _) fun _ _ => hK _)
    obtain ⟨r, h1, _⟩ := hf k x hx
    exact ⟨r, h1, by cases r <;> trivial⟩
  unfold L.ref12_Check
  refine Ok.iteB (fun _ => .pure trivial) fun _ => T (fun k x hx => ?_) ?_
  · unfold L.ref12_Check.B24; exact Ok.iteB (fun _ => .pure trivial) fun _ => .pure trivial
  rintro (_ | b)
  rotate_left
  · exact .pure trivial
  simp only [Sum.elim_inl]
  unfold L.ref12_Check.J1
  refine .bind (ref12Names_ok (by omega) (by omega) (by omega)) fun r hr => ?_
  have hnm : ∀ (k : Nat) (hk : k < 4), r.l[k]'(by rw [hr]; exact hk) = ([n.Nodes, n.Segments.map (·.Name), n.Ports.map (·.Name), n.Stations.map (·.Name)])[k]'hk := fun k hk => by simp only [hr]
  refine .bind' (.forI (fun _ _ => True) (fun _ => True) trivial ?_ ?_ fun _ _ => .pure trivial)
  · intro k _ hk _
    obtain ⟨c, hc, hl⟩ := h.named _ (List.getElem_mem (l := [n.Nodes, n.Segments.map (·.Name), n.Ports.map (·.Name), n.Stations.map (·.Name)]) (n := k) hk)
    unfold L.ref12_Check.B21
    refine .bind' (.ix k rfl (by rw [hr]; exact hk) ?_)
    dsimp only
    rw [hnm k hk]
    refine .bind' (.forL (fun _ _ => True) (fun _ => True) trivial ?_ (fun _ _ => .pure trivial) fun _ _ => .pure trivial)
    intro j x _ hx _
    have := hl.2 j x hx
    subst this
    unfold L.ref12_Check.B23
    exact .bind (ref03Name_ok (by simp [nm, ByteArray.size])) fun b _ => Ok.iteB (fun _ => .pure trivial) fun _ => .pure trivial
  intro _ _
  simp only [Sum.elim_inl]
  unfold L.ref12_Check.J2
  refine .bind' (.forI (fun _ _ => True) (fun _ => True) trivial ?_ ?_ fun _ _ => .pure trivial)
  · intro k _ hk _
    obtain ⟨c, hc, hl⟩ := h.named _ (List.getElem_mem (l := [n.Nodes, n.Segments.map (·.Name), n.Ports.map (·.Name), n.Stations.map (·.Name)]) (n := k) hk)
    unfold L.ref12_Check.B20
    refine .bind' (.ix k rfl (by rw [hr]; exact hk) ?_)
    dsimp only
    rw [hnm k hk]
    exact .bind (ref12Twice_ok (by have := hl.1; omega)) fun b _ => Ok.iteB (fun _ => .pure trivial) fun _ => .pure trivial
  intro _ _
  simp only [Sum.elim_inl]
  unfold L.ref12_Check.J3
  refine T (fun k x hx => ?_) ?_
  · have hkl := (List.getElem?_eq_some_iff.1 hx).1
    unfold L.ref12_Check.B17
    refine .bind (Q := fun _ => True) ?_ ?_
    · refine .loop (fun st : Int => 0 ≤ st ∧ st ≤ (k : Int)) (fun st => k - st.toNat) ⟨by omega, by omega⟩ (by omega) ?_
      rintro st ⟨h0, h1⟩
      unfold L.ref12_Check.B19
      refine Ok.iteD (fun hlt => .bind' (.ix' h0 (by omega) fun j y _ _ => Ok.iteB (fun _ => .pure trivial) fun _ => .pure ?_)) fun _ => .pure trivial
      rw [wr_id (by omega)]
      exact ⟨⟨by omega, by omega⟩, by omega⟩
    · rintro (b | b) _
      · exact .pure trivial
      · exact .pure trivial
  rintro (_ | b)
  rotate_left
  · exact .pure trivial
  simp only [Sum.elim_inl]
  unfold L.ref12_Check.J4
  refine T (fun k x hx => ?_) ?_
  · unfold L.ref12_Check.B16; exact Ok.iteB (fun _ => .pure trivial) fun _ => .pure trivial
  rintro (_ | b)
  rotate_left
  · exact .pure trivial
  simp only [Sum.elim_inl]
  unfold L.ref12_Check.J5
  refine T (fun k x hx => ?_) ?_
  · unfold L.ref12_Check.B15; exact Ok.iteB (fun _ => .pure trivial) fun _ => .pure trivial
  rintro (_ | b)
  rotate_left
  · exact .pure trivial
  simp only [Sum.elim_inl]
  unfold L.ref12_Check.J6
  refine T (fun k x hx => ?_) ?_
  · unfold L.ref12_Check.B14; exact Ok.iteB (fun _ => .pure trivial) fun _ => .pure trivial
  rintro (_ | b)
  rotate_left
  · exact .pure trivial
  simp only [Sum.elim_inl]
  unfold L.ref12_Check.J7
  refine T (fun k x hx => ?_) ?_
  · have := (h.segs k x hx).points.len
    unfold L.ref12_Check.B13
    exact .bind (ref12Proper_ok (by omega) (by omega)) fun b _ => Ok.iteB (fun _ => .pure trivial) fun _ => .pure trivial
  rintro (_ | b)
  rotate_left
  · exact .pure trivial
  simp only [Sum.elim_inl]
  unfold L.ref12_Check.J8
  refine T (fun k x hx => ?_) ?_
  · unfold L.ref12_Check.B12; exact Ok.iteB (fun _ => .pure trivial) fun _ => .pure trivial
  rintro (_ | b)
  rotate_left
  · exact .pure trivial
  simp only [Sum.elim_inl]
  unfold L.ref12_Check.J9
  refine T (fun k x hx => ?_) ?_
  · unfold L.ref12_Check.B11; exact Ok.iteB (fun _ => .pure trivial) fun _ => .pure trivial
  rintro (_ | b)
  rotate_left
  · exact .pure trivial
  simp only [Sum.elim_inl]
  unfold L.ref12_Check.J10
  exact Ok.iteB (fun _ => .pure trivial) fun _ => .pure trivial

end Go.Proofs.Ytndfiddakngjdaa
