/- A network that a reader of numbers gives has no fault. No condition. -/
import Derived.Test.YtncfbhnecmnfpaaGreatDoorP7
namespace Go.Proofs.YtncfbhnecmnfpaaGreatDoor
set_option linter.unusedVariables false
set_option linter.unusedSimpArgs false
open Go.Aw

theorem maps_ok {α β : Type} {l : List α} {g : α → β} {f : Nat → α → List β → Option (List β)} (hf : ∀ k x st, f k x st = (app? st [g x]).bind fun y => some y) (hl : l.length ≤ 1000) :
    Ok (forS f 0 l []) fun r => r = l.map g := by
  refine .forS (fun k st => st = (l.take k).map g) (by simp) ?_ fun st h => by rw [h]; simp
  rintro k x st hx rfl
  rw [hf]
  have hk := (List.getElem?_eq_some_iff.1 hx).1
  refine .bind' (.app (by simp; omega) (.pure ?_))
  rw [List.take_add_one, hx]
  simp

theorem names_ok {n : Network} (h1 : n.Segments.length ≤ 1000) (h2 : n.Ports.length ≤ 1000) (h3 : n.Stations.length ≤ 1000) :
    Ok (L.network_names n) fun r => r.l = [n.Nodes, n.Segments.map (·.Name), n.Ports.map (·.Name), n.Stations.map (·.Name)] := by
  unfold L.network_names
  refine .bind (maps_ok (g := (·.Name)) (fun _ _ _ => rfl) h1) ?_
  rintro _ rfl
  unfold L.network_names.J1
  refine .bind (maps_ok (g := (·.Name)) (fun _ _ _ => rfl) h2) ?_
  rintro _ rfl
  unfold L.network_names.J2
  refine .bind (maps_ok (g := (·.Name)) (fun _ _ _ => rfl) h3) ?_
  rintro _ rfl
  unfold L.network_names.J3
  exact .pure rfl

/-- Names with one first letter each, numbered. -/
def Named (c : UInt8) (l : List ByteArray) : Prop := l.length ≤ 26 ∧ ∀ (k : Nat) (x : ByteArray), l[k]? = some x → x = nm c k

theorem NetOk.named {n : Network} (h : NetOk n) : ∀ l, l ∈ [n.Nodes, n.Segments.map (·.Name), n.Ports.map (·.Name), n.Stations.map (·.Name)] → ∃ c, (c = 110 ∨ c = 103 ∨ c = 113 ∨ c = 115) ∧ Named c l := by
  have h1 := h.nodes; have h2 := h.segs1; have h3 := h.ports1; have h4 := h.sts1
  intro l hl
  simp only [List.mem_cons, List.not_mem_nil, or_false] at hl
  rcases hl with rfl | rfl | rfl | rfl
  · exact ⟨110, by simp, by omega, h.names⟩
  · refine ⟨103, by simp, by simp; omega, fun k x hx => ?_⟩
    rw [List.getElem?_map] at hx
    obtain ⟨s, hs, rfl⟩ := Option.map_eq_some_iff.1 hx
    exact (h.segs k s hs).name
  · refine ⟨113, by simp, by simp; omega, fun k x hx => ?_⟩
    rw [List.getElem?_map] at hx
    obtain ⟨s, hs, rfl⟩ := Option.map_eq_some_iff.1 hx
    exact (h.ports k s hs).name
  · refine ⟨115, by simp, by simp; omega, fun k x hx => ?_⟩
    rw [List.getElem?_map] at hx
    obtain ⟨s, hs, rfl⟩ := Option.map_eq_some_iff.1 hx
    exact (h.sts k s hs).name

theorem lt26 {k : Nat} (h : k < 26) : k = 0 ∨ k = 1 ∨ k = 2 ∨ k = 3 ∨ k = 4 ∨ k = 5 ∨ k = 6 ∨ k = 7 ∨ k = 8 ∨ k = 9 ∨ k = 10 ∨ k = 11 ∨ k = 12 ∨ k = 13 ∨ k = 14 ∨ k = 15 ∨ k = 16 ∨ k = 17 ∨ k = 18 ∨ k = 19 ∨ k = 20 ∨ k = 21 ∨ k = 22 ∨ k = 23 ∨ k = 24 ∨ k = 25 := by omega

theorem nameOk {c : UInt8} (hc : c = 110 ∨ c = 103 ∨ c = 113 ∨ c = 115) {k : Nat} (hk : k < 26) : L.lines_Name (nm c k) = some true := by
  rcases hc with rfl | rfl | rfl | rfl <;>
    rcases lt26 hk with rfl | rfl | rfl | rfl | rfl | rfl | rfl | rfl | rfl | rfl | rfl | rfl | rfl | rfl | rfl | rfl | rfl | rfl | rfl | rfl | rfl | rfl | rfl | rfl | rfl | rfl <;> rfl

theorem nm_inj {c : UInt8} {i j : Nat} (hi : i < 26) (hj : j < 26) (h : sEq (nm c i) (nm c j) = true) : i = j := by
  have h1 : (nm c i).toList = (nm c j).toList := by simpa [sEq] using h
  have h2 : [c, 97 + UInt8.ofNat i] = [c, 97 + UInt8.ofNat j] := by simpa [nm, ByteArray.toList, ByteArray.toList.loop, ByteArray.size, ByteArray.get!] using h1
  simp only [List.cons.injEq, and_true, true_and] at h2
  have h3 := congrArg UInt8.toNat h2
  simp only [UInt8.toNat_add, UInt8.toNat_ofNat'] at h3
  have : (97 : UInt8).toNat = 97 := rfl
  rw [this] at h3
  omega

theorem sEq_refl (a : ByteArray) : sEq a a = true := by simp [sEq]

/-- Names that are names, each once. -/
def Nmd (l : List ByteArray) : Prop := l.length ≤ 26 ∧ (∀ (k : Nat) (x : ByteArray), l[k]? = some x → L.lines_Name x = some true) ∧ ∀ (i j : Nat) (x y : ByteArray), l[i]? = some x → l[j]? = some y → sEq x y = true → i = j

theorem Named.nmd {c : UInt8} (hc : c = 110 ∨ c = 103 ∨ c = 113 ∨ c = 115) {l : List ByteArray} (h : Named c l) : Nmd l := by
  obtain ⟨h1, h2⟩ := h
  refine ⟨h1, fun k x hk => ?_, fun i j x y hi hj he => ?_⟩
  · have := (List.getElem?_eq_some_iff.1 hk).1
    rw [h2 k x hk]; exact nameOk hc (by omega)
  · have hi' := (List.getElem?_eq_some_iff.1 hi).1
    have hj' := (List.getElem?_eq_some_iff.1 hj).1
    have hx := h2 i x hi; have hy := h2 j y hj
    subst hx; subst hy
    exact nm_inj (by omega) (by omega) he

theorem twice_names {l : List ByteArray} (h : Nmd l) {k : Nat} {x : ByteArray} (hk : l[k]? = some x) : Ok (L.slices_Index_string_string l x) fun r => r = (k : Int) := by
  obtain ⟨h1, _, h2⟩ := h
  refine index_string_string.mono ?_
  rintro r (⟨rfl, h⟩ | ⟨j, y, rfl, hj, he, hlt⟩)
  · have := h k x hk
    rw [sEq_refl] at this; cases this
  · have := h2 k j x y hk hj he
    omega

theorem pipe_ok {nodes k : Nat} {s : Segment} (h : SegOk nodes k s) : L.network_pipe s = some true := by
  have : Ok (L.network_pipe s) fun r => r = true := by
    have hp := h.points
    have h1 := h.ends; have h2 := h.cap; have h3 := h.resist; have h4 := h.wave; have h5 := hp.len
    unfold L.network_pipe
    refine Ok.iteB (fun hb => ?_) fun _ => ?_
    · simp [L.network_in] at hb
      omega
    refine .bind' (.forL (fun _ _ => True) (fun _ => False) trivial ?_ ?_ fun _ h => h.elim)
    · intro i p _ hi _
      have hm := List.mem_of_getElem? hi
      have g1 := hp.height p hm; have g2 := hp.limit p hm
      unfold L.network_pipe.B3
      refine Ok.iteB (fun hb => ?_) fun _ => Ok.iteB (fun hb => ?_) fun _ => Ok.iteD (fun h0 => ?_) fun h0 => ?_
      · simp [L.network_in] at hb; omega
      · simp [L.network_in] at hb; omega
      · rw [wr_id (by have := (List.getElem?_eq_some_iff.1 hi).1; omega)]
        obtain ⟨j, rfl⟩ : ∃ j, i = j + 1 := ⟨i - 1, by omega⟩
        have hjl : j < s.Points.length := by have := (List.getElem?_eq_some_iff.1 hi).1; omega
        have hj : s.Points[j]? = some s.Points[j] := List.getElem?_eq_getElem hjl
        have hup := hp.up j _ p hj hi
        refine .bind' (.ix j (by omega) hjl ?_)
        unfold L.network_pipe.J4
        refine Ok.iteD (fun h => ?_) fun _ => .pure trivial
        dsimp only at h; omega
      · unfold L.network_pipe.J4
        exact .pure trivial
    · intro _ _
      simp only [Sum.elim_inl]
      unfold L.network_pipe.J1 L.network_pipe.J2
      have e0 : s.Points[0]? = some s.Points[0] := List.getElem?_eq_getElem (by omega)
      have el : s.Points[s.Points.length - 1]? = some s.Points[s.Points.length - 1] := List.getElem?_eq_getElem (by omega)
      refine .bind' (.ix 0 rfl (by omega) (Ok.iteB (fun _ => ?_) fun hb => ?_))
      · rw [wr_id (by omega)]
        refine .bind' (.ix (s.Points.length - 1) (by omega) (by omega) (.pure ?_))
        have := hp.last _ el
        dsimp only
        rw [this]; simp
      · have := hp.first _ e0
        dsimp only at hb
        rw [this] at hb
        cases hb
  obtain ⟨r, h, rfl⟩ := this
  exact h

theorem any_false {α : Type} {l : List α} {P : α → Bool} (h : ∀ (k : Nat) (x : α), l[k]? = some x → P x = false) : l.any P = false := by
  rw [List.any_eq_false]
  intro x hx
  obtain ⟨j, hj⟩ := List.getElem?_of_mem hx
  rw [h j x hj]; simp

/-- What a valid network is here. -/
structure NetV (n : Network) : Prop where
  nodes : 1 ≤ n.Nodes.length ∧ n.Nodes.length ≤ 6
  segs1 : n.Segments.length ≤ 8
  segs : ∀ k s, n.Segments[k]? = some s → SegOk n.Nodes.length k s
  ports1 : n.Ports.length ≤ 6
  ports : ∀ k s, n.Ports[k]? = some s → PortOk n.Nodes.length k s
  sts1 : n.Stations.length ≤ 6
  sts : ∀ k s, n.Stations[k]? = some s → StOk n.Nodes.length k s
  stsUp : ∀ (i j : Nat) (p q : Station), i < j → n.Stations[i]? = some p → n.Stations[j]? = some q → p.Node < q.Node
  vapour : -100000 ≤ n.Vapour ∧ n.Vapour ≤ 50000
  settle : 0 ≤ n.Settle ∧ n.Settle ≤ 100
  named : ∀ l, l ∈ [n.Nodes, n.Segments.map (·.Name), n.Ports.map (·.Name), n.Stations.map (·.Name)] → Nmd l

theorem NetOk.v {n : Network} (h : NetOk n) : NetV n :=
  ⟨by have := h.nodes; omega, h.segs1.2, h.segs, h.ports1.2, h.ports, h.sts1, h.sts, h.stsUp, h.vapour, h.settle, fun l hl => let ⟨_, hc, hn⟩ := h.named l hl; hn.nmd hc⟩

theorem netCheckV {n : Network} (h : NetV n) : L.network_Check n = some 0 := by
  have : Ok (L.network_Check n) fun r => r = 0 := by
    have h1 := h.nodes; have h2 := h.segs1; have h3 := h.ports1; have h4 := h.sts1; have h5 := h.vapour; have h6 := h.settle
    unfold L.network_Check
    refine .bind (Q := fun r => r = true) ?_ ?_
    · unfold L.network_limits
      refine Ok.iteB (fun hb => ?_) fun _ => .bind' (.eq (containsFunc_api_Segment_api_Segment (P := fun x => L.network_limits_1 x) fun _ _ _ => rfl) (.pure ?_))
      · simp at hb; omega
      · rw [any_false]; rfl
        intro k x hx
        have := (h.segs k x hx).points.len
        simp [L.network_limits_1]; omega
    rintro _ rfl
    refine Ok.iteN (fun hb => by cases hb) fun _ => ?_
    refine .bind (names_ok (by omega) (by omega) (by omega)) fun r45 hr => ?_
    refine .bind' (.forI (fun _ _ => True) (fun _ => False) trivial ?_ ?_ fun _ h => h.elim)
    · intro k _ hk _
      unfold L.network_Check.B2
      refine .bind' (.ix k rfl (by rw [hr]; exact hk) ?_)
      have hkl : k < r45.l.length := by rw [hr]; exact hk
      have hl := h.named r45.l[k] (by rw [← hr]; exact List.getElem_mem _)
      refine .bind' (.eq (containsFunc_string_string (P := fun _ => false) fun j x hx => ?_) ?_)
      · unfold L.network_Check_1
        rw [hl.2.1 j x hx]; rfl
      · rw [any_false fun _ _ _ => rfl]
        exact .pure trivial
    · intro _ _
      simp only [Sum.elim_inl]
      unfold L.network_Check.J1
      refine .bind (Q := fun r => r = false) ?_ ?_
      · unfold L.network_twice
        refine .bind (names_ok (by omega) (by omega) (by omega)) fun r45 hr => ?_
        refine .bind' (.forI (fun _ _ => True) (fun _ => False) trivial ?_ ?_ fun _ h => h.elim)
        · intro k _ hk _
          unfold L.network_twice.B4
          refine .bind' (.ix k rfl (by rw [hr]; exact hk) ?_)
          have hkl : k < r45.l.length := by rw [hr]; exact hk
          have hl := h.named r45.l[k] (by rw [← hr]; exact List.getElem_mem _)
          refine .bind' (.forL (fun _ _ => True) (fun _ => False) trivial ?_ ?_ fun _ h => h.elim)
          · intro j x _ hj _
            unfold L.network_twice.B6
            refine .bind (twice_names hl hj) ?_
            rintro _ rfl
            refine Ok.iteD (fun h => by omega) fun _ => .pure trivial
          · intro _ _
            exact .pure trivial
        · intro _ _
          simp only [Sum.elim_inl]
          unfold L.network_twice.J1
          refine .bind' (.forL (fun _ _ => True) (fun _ => False) trivial ?_ ?_ fun _ h => h.elim)
          · intro j x _ hj _
            unfold L.network_twice.B3
            refine .bind (Q := fun r => r = (j : Int)) ((indexFunc_api_Station_api_Station (P := fun y => L.network_twice_1 y x) fun _ _ _ => rfl).mono ?_) ?_
            · rintro r (⟨rfl, hh⟩ | ⟨k, y, rfl, hk, he, hlt⟩)
              · have := hh j x hj
                simp [L.network_twice_1] at this
              · simp [L.network_twice_1] at he
                by_cases hkj : k = j
                · omega
                · rcases Nat.lt_or_gt_of_ne hkj with hlt2 | hlt2
                  · have := h.stsUp k j y x hlt2 hk hj; omega
                  · have := h.stsUp j k x y hlt2 hj hk; omega
            · rintro _ rfl
              refine Ok.iteD (fun h => by omega) fun _ => .pure trivial
          · intro _ _
            exact .pure rfl
      rintro _ rfl
      refine Ok.iteB (fun h => by cases h) fun _ => ?_
      refine .bind (Q := fun r => r = true) ?_ ?_
      · unfold L.network_known
        let good : List Int → Prop := fun l => ∀ x, x ∈ l → 0 ≤ x ∧ x < (n.Nodes.length : Int)
        have app : ∀ {l m : List Int}, good l → good m → good (l ++ m) := fun h1 h2 x hx => by
          rcases List.mem_append.1 hx with hx | hx
          · exact h1 x hx
          · exact h2 x hx
        refine .bind (Q := fun l => l.length ≤ 100 ∧ good l) (.forS (fun k l => l.length ≤ 2 * k ∧ good l) ⟨by simp, by intro x hx; cases hx⟩ ?_ fun l hl => ⟨by omega, hl.2⟩) ?_
        · rintro k s l hs ⟨l1, l2⟩
          have hkl := (List.getElem?_eq_some_iff.1 hs).1
          have he := (h.segs k s hs).ends
          unfold L.network_known.B6
          refine .bind' (.app (by simp; omega) (.pure ⟨by simp; omega, app l2 ?_⟩))
          intro x hx
          simp at hx
          rcases hx with rfl | rfl <;> omega
        rintro l ⟨l1, l2⟩
        unfold L.network_known.J1
        refine .bind (Q := fun l => l.length ≤ 200 ∧ good l) (.forS (fun k l => l.length ≤ 100 + k ∧ good l) ⟨by omega, l2⟩ ?_ fun l hl => ⟨by omega, hl.2⟩) ?_
        · rintro k s l hs ⟨l1, l2⟩
          have hkl := (List.getElem?_eq_some_iff.1 hs).1
          have he := (h.ports k s hs).node
          unfold L.network_known.B5
          refine .bind' (.app (by simp; omega) (.pure ⟨by simp; omega, app l2 ?_⟩))
          intro x hx
          simp at hx; subst hx; omega
        rintro l ⟨l1, l2⟩
        unfold L.network_known.J2
        refine .bind (Q := fun l => l.length ≤ 300 ∧ good l) (.forS (fun k l => l.length ≤ 200 + k ∧ good l) ⟨by omega, l2⟩ ?_ fun l hl => ⟨by omega, hl.2⟩) ?_
        · rintro k s l hs ⟨l1, l2⟩
          have hkl := (List.getElem?_eq_some_iff.1 hs).1
          have he := (h.sts k s hs).node
          unfold L.network_known.B4
          refine .bind' (.app (by simp; omega) (.pure ⟨by simp; omega, app l2 ?_⟩))
          intro x hx
          simp at hx; subst hx; omega
        rintro l ⟨l1, l2⟩
        unfold L.network_known.J3
        refine .bind' (.eq (containsFunc_int_int (P := fun x => L.network_known_1 x n) fun _ _ _ => rfl) (.pure ?_))
        rw [any_false]; rfl
        intro k x hx
        have := l2 x (List.mem_of_getElem? hx)
        simp [L.network_known_1]; omega
      rintro _ rfl
      refine Ok.iteN (fun h => by cases h) fun _ => ?_
      refine .bind (Q := fun r => r = true) ?_ ?_
      · unfold L.network_proper
        refine .bind' (.eq (containsFunc_api_Segment_api_Segment (P := fun _ => false) fun k x hx => by unfold L.network_proper_1; rw [pipe_ok (h.segs k x hx)]; rfl) ?_)
        rw [any_false fun _ _ _ => rfl]
        refine Ok.iteB (fun h => by cases h) fun _ => ?_
        refine .bind' (.eq (containsFunc_api_Port_api_Port (P := fun x => L.network_proper_2 x) fun _ _ _ => rfl) ?_)
        rw [any_false]
        · refine Ok.iteB (fun h => by cases h) fun _ => ?_
          refine .bind' (.eq (containsFunc_api_Station_api_Station (P := fun x => L.network_proper_3 x) fun _ _ _ => rfl) ?_)
          rw [any_false]
          · refine Ok.iteB (fun h => by cases h) fun _ => .pure ?_
            simp [L.network_in]; omega
          · intro k x hx
            have h1 := (h.sts k x hx).head; have h2 := (h.sts k x hx).fall; have h3 := (h.sts k x hx).suction
            simp [L.network_proper_3, L.network_in]; omega
        · intro k x hx
          have h1 := (h.ports k x hx).pressure
          simp [L.network_proper_2, L.network_in]; omega
      rintro _ rfl
      exact Ok.iteN (fun h => by cases h) fun _ => .pure rfl
  obtain ⟨r, h, rfl⟩ := this
  exact h

theorem netCheck {n : Network} (h : NetOk n) : L.network_Check n = some 0 := netCheckV h.v

end Go.Proofs.YtncfbhnecmnfpaaGreatDoor
