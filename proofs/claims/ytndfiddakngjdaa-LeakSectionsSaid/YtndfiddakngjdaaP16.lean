/- The reference's check finds no fault in a network and a plan that a reader of numbers gives. No condition. -/
import Derived.Test.YtndfiddakngjdaaP14
import Derived.KernelRfl
namespace Go.Proofs.Ytndfiddakngjdaa
set_option linter.unusedVariables false
set_option linter.unusedSimpArgs false
open Go.Aw

theorem nameOk03 {c : UInt8} (hc : c = 110 ∨ c = 103 ∨ c = 113 ∨ c = 115) {k : Nat} (hk : k < 26) : L.ref03_Name (nm c k) = some true := by
  rcases hc with rfl | rfl | rfl | rfl <;>
    rcases lt26 hk with rfl | rfl | rfl | rfl | rfl | rfl | rfl | rfl | rfl | rfl | rfl | rfl | rfl | rfl | rfl | rfl | rfl | rfl | rfl | rfl | rfl | rfl | rfl | rfl | rfl | rfl <;> kernel_rfl

theorem twice12 {c : UInt8} {l : List ByteArray} (h : Named c l) : L.ref12_twice l = some false := by
  have : Ok (L.ref12_twice l) fun r => r = false := by
    obtain ⟨h1, h2⟩ := h
    unfold L.ref12_twice
    refine .bind' (.forL (fun _ _ => True) (fun _ => False) trivial ?_ (fun _ _ => .pure rfl) fun _ h => h.elim)
    intro k x _ hx _
    have hkl := (List.getElem?_eq_some_iff.1 hx).1
    unfold L.ref12_twice.B2
    refine .bind (Q := fun d : Bool ⊕ Unit => d = .inr ()) ?_ ?_
    · refine .loop (fun st : Int => 0 ≤ st ∧ st ≤ (k : Int)) (fun st => k - st.toNat) ⟨by omega, by omega⟩ (by omega) ?_
      rintro st ⟨h0, h3⟩
      unfold L.ref12_twice.B4
      refine Ok.iteD (fun hlt => .bind' (.ix' h0 (by omega) fun j y hj hy => Ok.iteB (fun he => ?_) fun _ => .pure ?_)) fun _ => .pure rfl
      · have e1 := h2 k x hx; have e2 := h2 j y hy
        subst e1; subst e2
        have := nm_inj (by omega) (by omega) he
        omega
      · rw [wr_id (by omega)]
        exact ⟨⟨by omega, by omega⟩, by omega⟩
    · rintro _ rfl
      exact .pure trivial
  obtain ⟨r, h, rfl⟩ := this
  exact h

theorem proper12 {nodes k : Nat} {s : Segment} (h : SegOk nodes k s) : L.ref12_proper s = some true := by
  have : Ok (L.ref12_proper s) fun r => r = true := by
    have hp := h.points
    have h1 := h.ends; have h2 := h.cap; have h3 := h.resist; have h4 := h.wave; have h5 := hp.len
    have e0 : s.Points[0]? = some s.Points[0] := List.getElem?_eq_getElem (by omega)
    have el : s.Points[s.Points.length - 1]? = some s.Points[s.Points.length - 1] := List.getElem?_eq_getElem (by omega)
    have q0 := hp.first _ e0; have ql := hp.last _ el
    unfold L.ref12_proper
    refine Ok.iteE (fun h => by omega) fun _ => Ok.iteN (fun hb => by simp [L.ref12_in] at hb; omega) fun _ => Ok.iteN (fun hb => by simp [L.ref12_in] at hb; omega) fun _ => Ok.iteN (fun hb => by simp [L.ref12_in] at hb; omega) fun _ => ?_
    refine .bind' (.ix 0 rfl (by omega) (Ok.iteU (fun h => absurd q0 h) fun _ => ?_))
    rw [wr_id (by omega)]
    refine .bind' (.ix (s.Points.length - 1) (by omega) (by omega) ?_)
    dsimp only
    rw [ql]
    unfold L.ref12_proper.J1
    refine Ok.iteB (fun h => by simp at h) fun _ => .bind' (.forL (fun _ _ => True) (fun _ => False) trivial ?_ (fun _ _ => .pure rfl) fun _ h => h.elim)
    intro i p _ hi _
    have hm := List.mem_of_getElem? hi
    have g1 := hp.height p hm; have g2 := hp.limit p hm
    have no : Ok (L.ref12_proper.J4 (!(L.ref12_in p.Limit 0 100000000))) (Sum.elim (fun _ : Unit => True) fun _ : Bool => False) := by
      unfold L.ref12_proper.J4
      refine Ok.iteN (fun hb => by simp [L.ref12_in] at hb; omega) fun _ => .pure trivial
    unfold L.ref12_proper.B3
    refine Ok.iteD (fun h0 => ?_) fun h0 => Ok.iteN (fun hb => by simp [L.ref12_in] at hb; omega) fun _ => no
    rw [wr_id (by have := (List.getElem?_eq_some_iff.1 hi).1; omega)]
    obtain ⟨j, rfl⟩ : ∃ j, i = j + 1 := ⟨i - 1, by omega⟩
    have hjl : j < s.Points.length := by have := (List.getElem?_eq_some_iff.1 hi).1; omega
    have hj : s.Points[j]? = some s.Points[j] := List.getElem?_eq_getElem hjl
    have hup := hp.up j _ p hj hi
    refine .bind' (.ix j (by omega) hjl (Ok.iteD (fun h => by dsimp only at h; omega) fun _ => Ok.iteN (fun hb => by simp [L.ref12_in] at hb; omega) fun _ => no))
  obtain ⟨r, h, rfl⟩ := this
  exact h

theorem check12 {n : Network} (h : NetOk n) : L.ref12_Check n = some 0 := by
  have : Ok (L.ref12_Check n) fun r => r = 0 := by
    have h1 := h.nodes; have h2 := h.segs1; have h3 := h.ports1; have h4 := h.sts1; have h5 := h.vapour; have h6 := h.settle
    have T : ∀ {α β : Type} {l : List α} {f : Nat → α → Unit → Option (Unit ⊕ β)} {K : Unit ⊕ β → Option β} {P : β → Prop}, (∀ k x, l[k]? = some x → f k x () = some (.inl ())) → Ok (K (.inl ())) P → Ok ((forL f 0 l ()).bind K) P := by
      intro α β l f K P hf hK
      refine .bind' (.forL (fun _ _ => True) (fun _ => False) trivial (fun k x st hx _ => ?_) (fun _ _ => hK) fun _ h => h.elim)
      exact ⟨_, hf k x hx, trivial⟩
    unfold L.ref12_Check
    refine Ok.iteB (fun hb => by simp [L.ref12_in] at hb; omega) fun _ => T (fun k x hx => ?_) ?_
    · have := (h.segs k x hx).points.len
      unfold L.ref12_Check.B24; rw [if_neg (by simp [L.ref12_in]; omega)]
    simp only [Sum.elim_inl]
    unfold L.ref12_Check.J1
    refine .bind (ref12Names_ok (by omega) (by omega) (by omega)) fun r hr => ?_
    have hnm : ∀ (k : Nat) (hk : k < 4), r.l[k]'(by rw [hr]; exact hk) = ([n.Nodes, n.Segments.map (·.Name), n.Ports.map (·.Name), n.Stations.map (·.Name)])[k]'hk := fun k hk => by simp only [hr]
    refine .bind' (.forI (fun _ _ => True) (fun _ => False) trivial ?_ ?_ fun _ h => h.elim)
    · intro k _ hk _
      obtain ⟨c, hc, hl⟩ := h.named _ (List.getElem_mem (l := [n.Nodes, n.Segments.map (·.Name), n.Ports.map (·.Name), n.Stations.map (·.Name)]) (n := k) hk)
      unfold L.ref12_Check.B21
      refine .bind' (.ix k rfl (by rw [hr]; exact hk) ?_)
      dsimp only
      rw [hnm k hk]
      refine .bind' (.forL (fun _ _ => True) (fun _ => False) trivial ?_ (fun _ _ => .pure trivial) fun _ h => h.elim)
      intro j x _ hx _
      have := hl.2 j x hx
      have hjl := (List.getElem?_eq_some_iff.1 hx).1
      subst this
      unfold L.ref12_Check.B23
      rw [nameOk03 hc (by have := hl.1; omega)]
      exact .bind' (.pure (Ok.iteN (fun h => by cases h) fun _ => .pure trivial))
    intro _ _
    simp only [Sum.elim_inl]
    unfold L.ref12_Check.J2
    refine .bind' (.forI (fun _ _ => True) (fun _ => False) trivial ?_ ?_ fun _ h => h.elim)
    · intro k _ hk _
      obtain ⟨c, hc, hl⟩ := h.named _ (List.getElem_mem (l := [n.Nodes, n.Segments.map (·.Name), n.Ports.map (·.Name), n.Stations.map (·.Name)]) (n := k) hk)
      unfold L.ref12_Check.B20
      refine .bind' (.ix k rfl (by rw [hr]; exact hk) ?_)
      dsimp only
      rw [hnm k hk, twice12 hl]
      exact .bind' (.pure (Ok.iteB (fun h => by cases h) fun _ => .pure trivial))
    intro _ _
    simp only [Sum.elim_inl]
    unfold L.ref12_Check.J3
    refine .bind' (.forL (fun _ _ => True) (fun _ => False) trivial ?_ ?_ fun _ h => h.elim)
    · intro k x _ hx _
      have hkl := (List.getElem?_eq_some_iff.1 hx).1
      unfold L.ref12_Check.B17
      refine .bind (Q := fun d : Int ⊕ Unit => d = .inr ()) ?_ ?_
      · refine .loop (fun st : Int => 0 ≤ st ∧ st ≤ (k : Int)) (fun st => k - st.toNat) ⟨by omega, by omega⟩ (by omega) ?_
        rintro st ⟨h0, h1⟩
        unfold L.ref12_Check.B19
        refine Ok.iteD (fun hlt => .bind' (.ix' h0 (by omega) fun j y hj hy => Ok.iteE (fun he => ?_) fun _ => .pure ?_)) fun _ => .pure rfl
        · have := h.stsUp j k y x (by omega) hy hx
          dsimp only at he; omega
        · rw [wr_id (by omega)]
          exact ⟨⟨by omega, by omega⟩, by omega⟩
      · rintro _ rfl
        exact .pure trivial
    intro _ _
    simp only [Sum.elim_inl]
    unfold L.ref12_Check.J4
    refine T (fun k x hx => ?_) ?_
    · have := (h.segs k x hx).ends
      unfold L.ref12_Check.B16; rw [wr_id (by omega), if_neg (by simp [L.ref12_in]; omega)]
    simp only [Sum.elim_inl]
    unfold L.ref12_Check.J5
    refine T (fun k x hx => ?_) ?_
    · have := (h.ports k x hx).node
      unfold L.ref12_Check.B15; rw [wr_id (by omega), if_neg (by simp [L.ref12_in]; omega)]
    simp only [Sum.elim_inl]
    unfold L.ref12_Check.J6
    refine T (fun k x hx => ?_) ?_
    · have := (h.sts k x hx).node
      unfold L.ref12_Check.B14; rw [wr_id (by omega), if_neg (by simp [L.ref12_in]; omega)]
    simp only [Sum.elim_inl]
    unfold L.ref12_Check.J7
    refine T (fun k x hx => ?_) ?_
    · unfold L.ref12_Check.B13; rw [proper12 (h.segs k x hx)]; rfl
    simp only [Sum.elim_inl]
    unfold L.ref12_Check.J8
    refine T (fun k x hx => ?_) ?_
    · have := (h.ports k x hx).pressure
      unfold L.ref12_Check.B12; rw [if_neg (by simp [L.ref12_in]; omega)]
    simp only [Sum.elim_inl]
    unfold L.ref12_Check.J9
    refine T (fun k x hx => ?_) ?_
    · have a1 := (h.sts k x hx).head; have a2 := (h.sts k x hx).fall; have a3 := (h.sts k x hx).suction
      unfold L.ref12_Check.B11; rw [if_neg (by simp [L.ref12_in]; omega)]
    simp only [Sum.elim_inl]
    unfold L.ref12_Check.J10
    exact Ok.iteB (fun hb => by simp [L.ref12_in] at hb; omega) fun _ => .pure rfl
  obtain ⟨r, h, rfl⟩ := this
  exact h

/-- A network in which nothing flows in a circle is gone through whole. -/
theorem order16_full {n : Network} (hn : NetOk n) {p : Plan} (h4 : p.Rates.length = n.Segments.length) (hac : Acyc n p) : Ok (L.ref16_order n p) fun r => r.length = n.Nodes.length := by
  have h1 := hn.nodes; have h2 := hn.segs1
  unfold L.ref16_order
  refine .bind' (.mk n.Nodes.length rfl (by omega) ?_)
  refine .bind (Q := fun r : List Int => r.length = n.Nodes.length) ?_ fun r hr => .pure hr
  refine .loop (fun st : List Int × List Bool => st.2.length = n.Nodes.length ∧ st.1.length = cnt st.2) (fun st => n.Nodes.length - cnt st.2)
    ⟨by simp, by simp [cnt_rep]⟩ (by dsimp only; omega) ?_
  rintro ⟨out, there⟩ ⟨i1, i2⟩
  dsimp only at i1 i2
  have hc := cnt_le there
  unfold L.ref16_order.B1
  refine .bind (Q := fun k : Int => (k = -1 ∧ ∀ j : Nat, there[j]? = some false → Blocked n p there j) ∨ ∃ j : Nat, k = (j : Int) ∧ there[j]? = some false) ?_ ?_
  · refine .forS (fun m (k : Int) => (k = -1 ∧ ∀ j : Nat, j < m → there[j]? = some false → Blocked n p there j) ∨ ∃ j : Nat, k = (j : Int) ∧ there[j]? = some false) (.inl ⟨rfl, fun j h => absurd h (Nat.not_lt_zero _)⟩) ?_ ?_
    · intro k x st hx hst
      have hkl := (List.getElem?_eq_some_iff.1 hx).1
      have ht : there[k]? = some there[k] := List.getElem?_eq_getElem (by omega)
      unfold L.ref16_order.B3
      refine .bind' (.eq (ix_nat ht) ?_)
      refine .bind (Q := fun b => (b = true → there[k]? = some false) ∧ (b = false → there[k]? = some false → Blocked n p there k)) ?_ ?_
      · refine .forS (fun m (b : Bool) => (b = true → there[k]? = some false) ∧ (b = false → there[k]? = some false → Blocked n p there k)) ?_ ?_ fun b h => h
        · refine ⟨fun hb => ?_, fun hb hf => ?_⟩
          · rw [ht]; simpa using hb
          · rw [ht] at hf; simp at hf; simp [hf] at hb
        · intro i s b hs hb
          have hil := (List.getElem?_eq_some_iff.1 hs).1
          have hr : p.Rates[i]? = some (p.Rates[i]'(by omega)) := List.getElem?_eq_getElem _
          generalize p.Rates[i]'(by omega) = r at hr
          have he := (hn.segs i s hs).ends
          unfold L.ref16_order.B6 L.ref16_order.J7
          refine .bind' (.eq (ix_nat hr) (Ok.iteU (fun hr0 => Ok.iteB (fun hbt => Ok.iteU (fun hto => .pure ⟨fun _ => hb.1 hbt, fun h => by cases h⟩) fun hto => ?_) fun hbf => .pure ⟨fun h => (by cases h), fun _ => hb.2 hbf⟩) fun _ => .pure hb))
          dsimp only at hr0 hto ⊢
          rw [endsOf16] at hto
          have hfr : 0 ≤ (L.flow_Ends s r).1 ∧ (L.flow_Ends s r).1 < (n.Nodes.length : Int) := by
            unfold L.flow_Ends
            split <;> dsimp only <;> omega
          rw [endsOf16]
          refine .bind' (.ix' hfr.1 (by omega) fun f y hf hy => .pure ⟨fun _ => hb.1 hbt, fun hyf _ => ⟨i, s, r, f, hs, hr, hr0, hto, hf, ?_⟩⟩)
          dsimp only at hy hyf
          rw [hy, hyf]
      · rintro b ⟨b1, b2⟩
        unfold L.ref16_order.J5 L.ref16_order.J4
        refine Ok.iteB (fun h => .pure (.inr ⟨k, rfl, b1 ?_⟩)) fun hno => .pure ?_
        · simp at h; exact h.1
        · rcases hst with ⟨rfl, hst⟩ | hst
          · refine .inl ⟨rfl, fun j hj hf => ?_⟩
            by_cases hjk : j = k
            · subst hjk
              simp at hno
              exact b2 hno hf
            · exact hst j (by omega) hf
          · exact .inr hst
    · rintro k (⟨rfl, h⟩ | h)
      · exact .inl ⟨rfl, fun j hj => h j (by have := (List.getElem?_eq_some_iff.1 hj).1; omega) hj⟩
      · exact .inr h
  · intro k hk
    unfold L.ref16_order.J2
    refine Ok.iteD (fun hneg => .pure ?_) fun h0 => ?_
    · rcases hk with ⟨_, h⟩ | ⟨j, rfl, _⟩
      · have := cnt_all (hac there i1 h)
        simp only [Sum.elim_inr]
        omega
      · omega
    · rcases hk with ⟨rfl, _⟩ | ⟨j, rfl, hj1⟩
      · exact absurd (by decide) h0
      refine .bind' (.app (by simp; omega) (.bind' (.eq (ix_nat hj1) (.pure ?_))))
      have hcs := cnt_set hj1
      have hcl := cnt_le (there.set j true)
      simp at hcl
      exact ⟨⟨by simp [i1], by simp [hcs, i2]⟩, by dsimp only; omega⟩

theorem check16 {n : Network} (hn : NetOk n) {p : Plan} (h : FlowOk n p) : L.ref16_Check n p = some 0 := by
  have : Ok (L.ref16_Check n p) fun r => r = 0 := by
    have h1 := hn.nodes; have h2 := hn.segs1; have h3 := hn.ports1; have h4 := h.rl; have h5 := h.pl; have h6 := h.ml
    have hrr : ∀ (k : Nat) (r : Int), p.Rates[k]? = some r → -1000 ≤ r ∧ r ≤ 1000 := fun k r hr => by
      have hkl := (List.getElem?_eq_some_iff.1 hr).1
      have hs : n.Segments[k]? = some (n.Segments[k]'(by omega)) := List.getElem?_eq_getElem _
      have := h.rng k r _ hr hs
      omega
    unfold L.ref16_Check
    rw [check12 hn]
    refine .bind' (.pure (Ok.iteU (fun h => absurd rfl h) fun _ => Ok.iteB (fun hb => by simp [h4, h5, h6] at hb) fun _ => ?_))
    refine .bind' (.forL (fun _ _ => True) (fun _ => False) trivial ?_ ?_ fun _ h => h.elim)
    · intro k r _ hr _
      have hkl := (List.getElem?_eq_some_iff.1 hr).1
      have hs : n.Segments[k]? = some n.Segments[k] := List.getElem?_eq_getElem (by omega)
      have hc := (hn.segs k _ hs).cap
      have hg := h.rng k r _ hr hs
      unfold L.ref16_Check.B6
      refine .bind' (.eq (ix_nat hs) (Ok.iteB (fun hb => ?_) fun _ => .pure trivial))
      dsimp only at hb
      rw [wr_id (by omega)] at hb
      simp at hb; omega
    intro _ _
    simp only [Sum.elim_inl]
    unfold L.ref16_Check.J1
    refine .bind' (.forL (fun _ _ => True) (fun _ => False) trivial ?_ ?_ fun _ h => h.elim)
    · intro k x _ hx _
      have := h.prt k x hx
      unfold L.ref16_Check.B5
      exact Ok.iteB (fun hb => by simp at hb; omega) fun _ => .pure trivial
    intro _ _
    simp only [Sum.elim_inl]
    unfold L.ref16_Check.J2
    refine .bind' (.forL (fun _ _ => True) (fun _ => False) trivial ?_ ?_ fun _ h => h.elim)
    · intro k x _ hx _
      have hkl := (List.getElem?_eq_some_iff.1 hx).1
      unfold L.ref16_Check.B4
      refine .bind (sums16_ok hn h4 h5 hrr h.prt k) fun r hr => Ok.iteU (fun hne => ?_) fun _ => .pure trivial
      have := h.bal k (by omega)
      omega
    intro _ _
    simp only [Sum.elim_inl]
    unfold L.ref16_Check.J3
    exact .bind (order16_full hn h4 h.acyc) fun r hr => Ok.iteU (fun hne => by omega) fun _ => .pure rfl
  obtain ⟨r, h, rfl⟩ := this
  exact h

end Go.Proofs.Ytndfiddakngjdaa
