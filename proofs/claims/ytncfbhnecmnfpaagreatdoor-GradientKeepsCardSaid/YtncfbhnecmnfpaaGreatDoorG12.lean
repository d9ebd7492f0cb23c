/- The reference finds no fault in a segment, its fill, products and batches. No condition. -/
import Derived.Test.YtncfbhnecmnfpaaGreatDoorG10
import Derived.Test.YtncfbhnecmnfpaaGreatDoorDk
namespace Go.Proofs.YtncfbhnecmnfpaaGreatDoor
set_option linter.unusedVariables false
set_option linter.unusedSimpArgs false
open Go.Aw

theorem names12V {n : Network} (h1 : n.Segments.length ≤ 1000) (h2 : n.Ports.length ≤ 1000) (h3 : n.Stations.length ≤ 1000) :
    Ok (L.ref12_names n) fun r => r.l = [n.Nodes, n.Segments.map (·.Name), n.Ports.map (·.Name), n.Stations.map (·.Name)] := by
  unfold L.ref12_names
  refine .bind (maps_ok (g := (·.Name)) (fun _ _ _ => rfl) h1) ?_
  rintro _ rfl
  unfold L.ref12_names.J1
  refine .bind (maps_ok (g := (·.Name)) (fun _ _ _ => rfl) h2) ?_
  rintro _ rfl
  unfold L.ref12_names.J2
  refine .bind (maps_ok (g := (·.Name)) (fun _ _ _ => rfl) h3) ?_
  rintro _ rfl
  unfold L.ref12_names.J3
  exact .pure rfl

theorem twice12V {l : List ByteArray} (hl : l.length ≤ 1000) (hd : ∀ (i j : Nat) (x y : ByteArray), l[i]? = some x → l[j]? = some y → sEq x y = true → i = j) : L.ref12_twice l = some false := by
  have : Ok (L.ref12_twice l) fun r => r = false := by
    unfold L.ref12_twice
    refine .bind' (.forL (fun _ _ => True) (fun _ => False) trivial ?_ (fun _ _ => .pure rfl) fun _ h => h.elim)
    intro k x _ hx _
    have hkl := (List.getElem?_eq_some_iff.1 hx).1
    unfold L.ref12_twice.B2
    refine .bind (Q := fun d : Bool ⊕ Unit => d = .inr ()) ?_ ?_
    · refine .loop (fun st : Int => 0 ≤ st ∧ st ≤ (k : Int)) (fun st => k - st.toNat) ⟨by omega, by omega⟩ (by omega) ?_
      rintro st ⟨h0, h3⟩
      unfold L.ref12_twice.B4
      refine Ok.iteD (fun hlt => .bind' (.ix' h0 (by omega) fun j y hj hy => Ok.iteB (fun he => ?_) fun _ => .pure ?_)) fun _ => .pure rfl
      · have := hd k j x y hx hy he
        omega
      · rw [wr_id (by omega)]
        exact ⟨⟨by omega, by omega⟩, by omega⟩
    · rintro _ rfl
      exact .pure trivial
  obtain ⟨r, h, rfl⟩ := this
  exact h

theorem proper12V {nodes k : Nat} {s : Segment} (h : SegOk nodes k s) : L.ref12_proper s = some true := by
  have : Ok (L.ref12_proper s) fun r => r = true := by
    have hp := h.points
    have h1 := h.ends; have h2 := h.cap; have h3 := h.resist; have h4 := h.wave; have h5 := hp.len
    have e0 : s.Points[0]? = some s.Points[0] := List.getElem?_eq_getElem (by omega)
    have el : s.Points[s.Points.length - 1]? = some s.Points[s.Points.length - 1] := List.getElem?_eq_getElem (by omega)
    have q0 := hp.first _ e0; have ql := hp.last _ el
    unfold L.ref12_proper
    refine Ok.iteE (fun h => by omega) fun _ => Ok.iteN (fun hb => by simp [L.ref12_in] at hb; omega) fun _ => Ok.iteN (fun hb => by simp [L.ref12_in] at hb; omega) fun _ => Ok.iteN (fun hb => by simp [L.ref12_in] at hb; omega) fun _ => ?_
    refine .bind' (.ix 0 rfl (by omega) (Ok.iteU (fun h => absurd q0 h) fun _ => ?_))
    rw [wr_id (by omega)]
    refine .bind' (.ix (s.Points.length - 1) (by omega) (by omega) ?_)
    dsimp only
    rw [ql]
    unfold L.ref12_proper.J1
    refine Ok.iteB (fun h => by simp at h) fun _ => .bind' (.forL (fun _ _ => True) (fun _ => False) trivial ?_ (fun _ _ => .pure rfl) fun _ h => h.elim)
    intro i p _ hi _
    have hm := List.mem_of_getElem? hi
    have g1 := hp.height p hm; have g2 := hp.limit p hm
    have no : Ok (L.ref12_proper.J4 (!(L.ref12_in p.Limit 0 100000000))) (Sum.elim (fun _ : Unit => True) fun _ : Bool => False) := by
      unfold L.ref12_proper.J4
      refine Ok.iteN (fun hb => by simp [L.ref12_in] at hb; omega) fun _ => .pure trivial
    unfold L.ref12_proper.B3
    refine Ok.iteD (fun h0 => ?_) fun h0 => Ok.iteN (fun hb => by simp [L.ref12_in] at hb; omega) fun _ => no
    rw [wr_id (by have := (List.getElem?_eq_some_iff.1 hi).1; omega)]
    obtain ⟨j, rfl⟩ : ∃ j, i = j + 1 := ⟨i - 1, by omega⟩
    have hjl : j < s.Points.length := by have := (List.getElem?_eq_some_iff.1 hi).1; omega
    have hj : s.Points[j]? = some s.Points[j] := List.getElem?_eq_getElem hjl
    have hup := hp.up j _ p hj hi
    refine .bind' (.ix j (by omega) hjl (Ok.iteD (fun h => by dsimp only at h; omega) fun _ => Ok.iteN (fun hb => by simp [L.ref12_in] at hb; omega) fun _ => no))
  obtain ⟨r, h, rfl⟩ := this
  exact h

theorem check12V {n : Network} (h : NetV n) (h03 : ∀ l, l ∈ [n.Nodes, n.Segments.map (·.Name), n.Ports.map (·.Name), n.Stations.map (·.Name)] → ∀ (k : Nat) x, l[k]? = some x → L.ref03_Name x = some true) : L.ref12_Check n = some 0 := by
  have : Ok (L.ref12_Check n) fun r => r = 0 := by
    have h1 := h.nodes; have h2 := h.segs1; have h3 := h.ports1; have h4 := h.sts1; have h5 := h.vapour; have h6 := h.settle
    have T : ∀ {α β : Type} {l : List α} {f : Nat → α → Unit → Option (Unit ⊕ β)} {K : Unit ⊕ β → Option β} {P : β → Prop}, (∀ k x, l[k]? = some x → f k x () = some (.inl ())) → Ok (K (.inl ())) P → Ok ((forL f 0 l ()).bind K) P := by
      intro α β l f K P hf hK
      refine .bind' (.forL (fun _ _ => True) (fun _ => False) trivial (fun k x st hx _ => ?_) (fun _ _ => hK) fun _ h => h.elim)
      exact ⟨_, hf k x hx, trivial⟩
    unfold L.ref12_Check
    refine Ok.iteB (fun hb => by simp [L.ref12_in] at hb; omega) fun _ => T (fun k x hx => ?_) ?_
    · have := (h.segs k x hx).points.len
      unfold L.ref12_Check.B24; rw [if_neg (by simp [L.ref12_in]; omega)]
    simp only [Sum.elim_inl]
    unfold L.ref12_Check.J1
    refine .bind (names12V (by omega) (by omega) (by omega)) fun r hr => ?_
    have hnm : ∀ (k : Nat) (hk : k < 4), r.l[k]'(by rw [hr]; exact hk) = ([n.Nodes, n.Segments.map (·.Name), n.Ports.map (·.Name), n.Stations.map (·.Name)])[k]'hk := fun k hk => by simp only [hr]
    refine .bind' (.forI (fun _ _ => True) (fun _ => False) trivial ?_ ?_ fun _ h => h.elim)
    · intro k _ hk _
      have hl := h03 _ (List.getElem_mem (l := [n.Nodes, n.Segments.map (·.Name), n.Ports.map (·.Name), n.Stations.map (·.Name)]) (n := k) hk)
      unfold L.ref12_Check.B21
      refine .bind' (.ix k rfl (by rw [hr]; exact hk) ?_)
      dsimp only
      rw [hnm k hk]
      refine .bind' (.forL (fun _ _ => True) (fun _ => False) trivial ?_ (fun _ _ => .pure trivial) fun _ h => h.elim)
      intro j x _ hx _
      unfold L.ref12_Check.B23
      rw [hl j x hx]
      exact .bind' (.pure (Ok.iteN (fun h => by cases h) fun _ => .pure trivial))
    intro _ _
    simp only [Sum.elim_inl]
    unfold L.ref12_Check.J2
    refine .bind' (.forI (fun _ _ => True) (fun _ => False) trivial ?_ ?_ fun _ h => h.elim)
    · intro k _ hk _
      have hl := h.named _ (List.getElem_mem (l := [n.Nodes, n.Segments.map (·.Name), n.Ports.map (·.Name), n.Stations.map (·.Name)]) (n := k) hk)
      unfold L.ref12_Check.B20
      refine .bind' (.ix k rfl (by rw [hr]; exact hk) ?_)
      dsimp only
      rw [hnm k hk, twice12V (by have := hl.1; omega) hl.2.2]
      exact .bind' (.pure (Ok.iteB (fun h => by cases h) fun _ => .pure trivial))
    intro _ _
    simp only [Sum.elim_inl]
    unfold L.ref12_Check.J3
    refine .bind' (.forL (fun _ _ => True) (fun _ => False) trivial ?_ ?_ fun _ h => h.elim)
    · intro k x _ hx _
      have hkl := (List.getElem?_eq_some_iff.1 hx).1
      unfold L.ref12_Check.B17
      refine .bind (Q := fun d : Int ⊕ Unit => d = .inr ()) ?_ ?_
      · refine .loop (fun st : Int => 0 ≤ st ∧ st ≤ (k : Int)) (fun st => k - st.toNat) ⟨by omega, by omega⟩ (by omega) ?_
        rintro st ⟨h0, h1⟩
        unfold L.ref12_Check.B19
        refine Ok.iteD (fun hlt => .bind' (.ix' h0 (by omega) fun j y hj hy => Ok.iteE (fun he => ?_) fun _ => .pure ?_)) fun _ => .pure rfl
        · have := h.stsUp j k y x (by omega) hy hx
          dsimp only at he; omega
        · rw [wr_id (by omega)]
          exact ⟨⟨by omega, by omega⟩, by omega⟩
      · rintro _ rfl
        exact .pure trivial
    intro _ _
    simp only [Sum.elim_inl]
    unfold L.ref12_Check.J4
    refine T (fun k x hx => ?_) ?_
    · have := (h.segs k x hx).ends
      unfold L.ref12_Check.B16; rw [wr_id (by omega), if_neg (by simp [L.ref12_in]; omega)]
    simp only [Sum.elim_inl]
    unfold L.ref12_Check.J5
    refine T (fun k x hx => ?_) ?_
    · have := (h.ports k x hx).node
      unfold L.ref12_Check.B15; rw [wr_id (by omega), if_neg (by simp [L.ref12_in]; omega)]
    simp only [Sum.elim_inl]
    unfold L.ref12_Check.J6
    refine T (fun k x hx => ?_) ?_
    · have := (h.sts k x hx).node
      unfold L.ref12_Check.B14; rw [wr_id (by omega), if_neg (by simp [L.ref12_in]; omega)]
    simp only [Sum.elim_inl]
    unfold L.ref12_Check.J7
    refine T (fun k x hx => ?_) ?_
    · unfold L.ref12_Check.B13; rw [proper12V (h.segs k x hx)]; rfl
    simp only [Sum.elim_inl]
    unfold L.ref12_Check.J8
    refine T (fun k x hx => ?_) ?_
    · have := (h.ports k x hx).pressure
      unfold L.ref12_Check.B12; rw [if_neg (by simp [L.ref12_in]; omega)]
    simp only [Sum.elim_inl]
    unfold L.ref12_Check.J9
    refine T (fun k x hx => ?_) ?_
    · have a1 := (h.sts k x hx).head; have a2 := (h.sts k x hx).fall; have a3 := (h.sts k x hx).suction
      unfold L.ref12_Check.B11; rw [if_neg (by simp [L.ref12_in]; omega)]
    simp only [Sum.elim_inl]
    unfold L.ref12_Check.J10
    exact Ok.iteB (fun hb => by simp [L.ref12_in] at hb; omega) fun _ => .pure rfl
  obtain ⟨r, h, rfl⟩ := this
  exact h

theorem nameOk03V {c : UInt8} (hc : c = 103 ∨ c = 112) {k : Nat} (hk : k < 26) : L.ref03_Name (nm c k) = some true := by
  rcases hc with rfl | rfl <;>
    rcases lt26 hk with rfl | rfl | rfl | rfl | rfl | rfl | rfl | rfl | rfl | rfl | rfl | rfl | rfl | rfl | rfl | rfl | rfl | rfl | rfl | rfl | rfl | rfl | rfl | rfl | rfl | rfl <;> kernel_rfl

theorem ref19Valid {s : Segment} (h : SegG s) : L.ref19_Valid s = some true := by
  have := check12V (segNetV h) (by
    unfold segNet
    intro l hl k x hx
    simp only [List.map_cons, List.map_nil, List.mem_cons, List.not_mem_nil, or_false] at hl
    rcases hl with rfl | rfl | rfl | rfl
    · match k, hx with
      | 0, hx => simp at hx; subst hx; exact (by kernel_rfl : L.ref03_Name _ = some true)
      | 1, hx => simp at hx; subst hx; exact (by kernel_rfl : L.ref03_Name _ = some true)
      | k + 2, hx => simp at hx
    · match k, hx with
      | 0, hx => simp at hx; subst hx; rw [h.name]; exact nameOk03V (.inl rfl) (by decide)
      | k + 1, hx => simp at hx
    · simp at hx
    · simp at hx)
  unfold segNet at this
  unfold L.ref19_Valid
  rw [this]; rfl

theorem ref19Fits {s : Segment} {f : List Piece} (hs : SegG s) (hf : FillOk s.Capacity f) : L.ref19_fits s f = some 0 := by
  have hc := hs.cap
  unfold L.ref19_fits L.ref19_fits.J1
  rw [ref19Valid hs, ref14Valid hf hc, ref14Sum hf.vol (by have := hf.sum; omega)]
  simp [hf.sum]

theorem ref04Check {l : List Product} (h : ProdsOk l) : L.ref04_Check l = some 0 := by
  have hl := h.len
  have : Ok (L.ref04_Check l) fun r => r = 0 := by
    unfold L.ref04_Check
    refine Ok.iteD (fun h => by omega) fun _ => .bind' (.forL (fun _ _ => True) (fun _ => False) trivial ?_ ?_ fun _ h => h.elim)
    · intro k x _ hx _
      have hk := (List.getElem?_eq_some_iff.1 hx).1
      have hp := h.all k x hx
      have d1 := hp.density; have d2 := hp.expansion; have d3 := hp.compress; have d4 := hp.friction
      unfold L.ref04_Check.B4
      refine .bind (Q := fun r => r = true) ?_ ?_
      · unfold L.ref04_Valid L.ref04_Valid.J1
        rw [hp.name, nameOk03V (.inr rfl) (by omega)]
        exact .bind' (.pure (Ok.iteB (fun _ => Ok.iteD (fun _ => Ok.iteD (fun _ => Ok.iteD (fun _ => Ok.iteD (fun _ => Ok.iteD (fun _ => Ok.iteD (fun _ => Ok.iteD (fun _ => .pure (by simp; omega)) fun h => by omega) fun h => by omega) fun h => by omega) fun h => by omega) fun h => by omega) fun h => by omega) fun h => by omega) fun h => by cases h))
      · rintro _ rfl
        exact Ok.iteN (fun h => by cases h) fun _ => .pure trivial
    · intro _ _
      simp only [Sum.elim_inl]
      unfold L.ref04_Check.J1
      refine .bind' (.forL (fun _ _ => True) (fun _ => False) trivial ?_ (fun _ _ => .pure rfl) fun _ h => h.elim)
      intro k x _ hx _
      have hk := (List.getElem?_eq_some_iff.1 hx).1
      have hp := h.all k x hx
      unfold L.ref04_Check.B3
      refine .bind (Q := fun r => r = (k : Int)) ?_ ?_
      · unfold L.ref04_Find
        refine .bind (Q := Sum.elim (fun _ : Unit => False) fun r : Int => r = (k : Int)) (.forL (fun j _ => j ≤ k) (fun r => r = (k : Int)) (Nat.zero_le _) ?_ (fun _ hh => by omega) fun _ h => h) ?_
        · intro j y _ hy hj
          have hjl := (List.getElem?_eq_some_iff.1 hy).1
          unfold L.ref04_Find.B2
          refine Ok.iteB (fun he => .pure ?_) fun he => .pure ?_
          · rw [(h.all j y hy).name, hp.name] at he
            have := nm_inj (by omega) (by omega) he
            simp only [Sum.elim_inr]; omega
          · have : j ≠ k := by
              rintro rfl
              rw [hx] at hy; cases hy
              rw [sEq_refl] at he; cases he
            simp only [Sum.elim_inl]; omega
        · rintro (_ | r) hr
          · exact hr.elim
          · exact .pure hr
      · rintro _ rfl
        exact Ok.iteU (fun h => absurd rfl h) fun _ => .pure trivial
  obtain ⟨r, h, rfl⟩ := this
  exact h

theorem ref19Known {f : List Piece} {b : List Batch} {p : List Product} {cap : Int} (hf : FillOk cap f) (hb : BatsOk p.length b) : L.ref19_Known f b p = some true := by
  have : Ok (L.ref19_Known f b p) fun r => r = true := by
    have hbl := hb.len
    unfold L.ref19_Known
    refine .bind' (.forL (fun _ _ => True) (fun _ => False) trivial ?_ (fun _ _ => .pure rfl) fun _ h => h.elim)
    intro k x _ hx _
    have hbx := hf.bat x (List.mem_of_getElem? hx)
    have no : Ok (L.ref19_Known.J3 false) (Sum.elim (fun _ : Unit => True) fun _ : Bool => False) := by unfold L.ref19_Known.J3; exact .pure trivial
    unfold L.ref19_Known.B2
    refine Ok.iteD (fun h => by omega) fun _ => .bind' (.ix' hbx.1 (by omega) fun j y hj hy => ?_)
    have hy2 := hb.all y (List.mem_of_getElem? hy)
    refine Ok.iteD (fun h => by dsimp only at h; omega) fun _ => ?_
    dsimp only
    rw [show decide (y.Product ≥ (p.length : Int)) = false by simp; omega]
    exact no
  obtain ⟨r, h, rfl⟩ := this
  exact h

end Go.Proofs.YtncfbhnecmnfpaaGreatDoor
