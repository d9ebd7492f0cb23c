/- The plans that a reader of numbers gives are balanced: their ways. No condition. -/
import Derived.Test.YtndfiddakngjdaaP4
namespace Go.Proofs.Ytndfiddakngjdaa
set_option linter.unusedVariables false
set_option linter.unusedSimpArgs false
open Go.Aw

theorem abs_eq {x : Int} (h : -1000000 ≤ x ∧ x ≤ 1000000) : L.keep_abs x = max x (-x) := by
  unfold L.keep_abs
  rw [wr_id (by omega), Int.zero_sub]

theorem neg_ok {l : List Int} {f : Nat → Int → List Int → Option (List Int)} (hf : ∀ k x st, f k x st = (app? st [wr (0 - x)]).bind fun y => some y) (hl : l.length ≤ 1000) (hr : ∀ (k : Nat) (x : Int), l[k]? = some x → -1000000 ≤ x ∧ x ≤ 1000000) :
    Ok (forS f 0 l []) fun r => r = l.map fun x => -x := by
  refine .forS (fun k st => st = (l.take k).map fun x => -x) (by simp) ?_ fun st h => by rw [h]; simp
  rintro k x st hx rfl
  rw [hf]
  have hk := (List.getElem?_eq_some_iff.1 hx).1
  have := hr k x hx
  refine .bind' (.app (by simp; omega) (.pure ?_))
  rw [List.take_add_one, hx, wr_id (by omega)]
  simp

theorem negated_ok {p : Plan} (h1 : p.Rates.length ≤ 1000) (h2 : p.Ports.length ≤ 1000) (h3 : p.Pumps.length ≤ 1000) (h4 : ∀ (k : Nat) (x : Int), p.Rates[k]? = some x → -1000000 ≤ x ∧ x ≤ 1000000)
    (h5 : ∀ (k : Nat) (x : Int), p.Ports[k]? = some x → -1000000 ≤ x ∧ x ≤ 1000000) : L.keep_Negated p = some ⟨p.Rates.map fun x => -x, p.Ports.map fun x => -x, p.Pumps⟩ := by
  have : Ok (L.keep_Negated p) fun r => r = ⟨p.Rates.map fun x => -x, p.Ports.map fun x => -x, p.Pumps⟩ := by
    unfold L.keep_Negated
    refine .bind' (.app (by simp; omega) (.bind (neg_ok (fun _ _ _ => rfl) h1 h4) ?_))
    rintro _ rfl
    unfold L.keep_Negated.J1
    refine .bind (neg_ok (fun _ _ _ => rfl) h2 h5) ?_
    rintro _ rfl
    unfold L.keep_Negated.J2
    exact .pure (by simp)
  obtain ⟨r, h, rfl⟩ := this
  exact h

/-- Where a way goes. -/
def WayTo (n : Network) (rates : List Int) (rate s0 : Int) (way : List Int) (t : Int) : Prop :=
  ∃ nd : Nat → Int, nd 0 = s0 ∧ nd way.length = t ∧ ∀ (j : Nat) (k : Int), way[j]? = some k → HopAt n rates rate (nd j) k (nd (j + 1))

theorem WayTo.snoc {n : Network} {rates : List Int} {rate s0 : Int} {way : List Int} {m k t : Int} (h : WayTo n rates rate s0 way m) (hk : HopAt n rates rate m k t) : WayTo n rates rate s0 (way ++ [k]) t := by
  obtain ⟨nd, h1, h2, h3⟩ := h
  refine ⟨fun i => if i ≤ way.length then nd i else t, by simp [h1], by simp; omega, fun j k' hj => ?_⟩
  rw [List.getElem?_append] at hj
  split at hj
  · rename_i hjl
    have := h3 j k' hj
    dsimp only
    rw [if_pos (by omega), if_pos (by omega)]; exact this
  · have hb := (List.getElem?_eq_some_iff.1 hj).1
    simp at hb
    have : j = way.length := by omega
    subst this
    simp at hj; subst hj
    dsimp only
    rw [if_pos (by omega), if_neg (by omega), h2]; exact hk

/-- A port at which a way may end. -/
def EndAt (n : Network) (ports : List Int) (rate : Int) (a : Nat) (t e : Int) : Prop :=
  ∃ (kk : Nat) (p : Port) (x : Int), e = (kk : Int) ∧ kk ≠ a ∧ n.Ports[kk]? = some p ∧ p.Node = t ∧ ports[kk]? = some x ∧ x ≤ 0 ∧ x - rate ≥ -1000

theorem way_ok {n : Network} (hn : NetOk n) {rates ports : List Int} {rate : Int} {a : Nat} {l0 : List Int} {q0 c0 s0 : Int} {sa s : Src} (h : PlInv n rates ports) (hr : 1 ≤ rate ∧ rate ≤ 300) (hs : SrcOk s)
    (h0 : 0 ≤ s0 ∧ s0 < (n.Nodes.length : Int)) :
    Ok (loopN (L.keep_Src_Plan.B11 n (l0, q0, rates, ports, c0) ((a : Int), sa) (rate, s)) lots (s.L_, s.At, s0, [], -1)) fun d => SrcOk ⟨d.1, d.2.1⟩ ∧ (d.2.2.2 < 0 ∨ ∃ t, WayTo n rates rate s0 d.2.2.1 t ∧ EndAt n ports rate a t d.2.2.2) := by
  have hnn := hn.nodes
  have hsn := hn.segs1
  refine .loop (fun st : List Int × Int × Int × List Int × Int => SrcOk ⟨st.1, st.2.1⟩ ∧ st.2.2.2.2 = -1 ∧ (0 ≤ st.2.2.1 ∧ st.2.2.1 < (n.Nodes.length : Int)) ∧ (st.2.2.2.1.length : Int) ≤ st.2.2.1 ∧ WayTo n rates rate s0 st.2.2.2.1 st.2.2.1) (fun st => n.Nodes.length - st.2.2.1.toNat)
    ⟨hs, rfl, h0, by simp; omega, fun _ => s0, rfl, rfl, by simp⟩ (by dsimp only; omega) ?_
  rintro ⟨L_, At, at_, way, e⟩ ⟨i1, i2, i3, i4, i5⟩
  dsimp only at i1 i2 i3 i4 i5
  subst i2
  unfold L.keep_Src_Plan.B11
  refine Ok.iteD (fun _ => ?_) fun h => absurd (show (-1 : Int) < 0 by decide) h
  refine .bind (Q := fun d : List Int × Int × Int => SrcOk ⟨d.1, d.2.1⟩ ∧ (d.2.2 = -1 ∨ EndAt n ports rate a at_ d.2.2)) ?_ ?_
  · refine .forS (fun _ d => SrcOk ⟨d.1, d.2.1⟩ ∧ (d.2.2 = -1 ∨ EndAt n ports rate a at_ d.2.2)) ⟨i1, .inl rfl⟩ ?_ fun _ h => h
    rintro k p ⟨L2, A2, e2⟩ hp ⟨j1, j2⟩
    dsimp only at j1 j2
    have no : ∀ {x : List Int × Int × Bool}, SrcOk ⟨x.1, x.2.1⟩ → x.2.2 = false → Ok (L.keep_Src_Plan.J19 k (L2, A2, e2) x) fun d => SrcOk ⟨d.1, d.2.1⟩ ∧ (d.2.2 = -1 ∨ EndAt n ports rate a at_ d.2.2) := by
      intro x h1 h2
      unfold L.keep_Src_Plan.J19 L.keep_Src_Plan.J18
      rw [h2]
      exact .pure ⟨h1, j2⟩
    have hkl := (List.getElem?_eq_some_iff.1 hp).1
    have hpl := h.pl
    unfold L.keep_Src_Plan.B17
    refine Ok.iteE (fun he => ?_) fun _ => no j1 rfl
    refine Ok.iteU (fun hka => ?_) fun _ => no j1 rfl
    refine .bind' (.ix k rfl (by dsimp only; omega) ?_)
    have hx : ports[k]? = some ports[k] := List.getElem?_eq_getElem (by omega)
    have hxr := h.prt k _ hx
    dsimp only
    rw [wr_id (by omega)]
    refine Ok.iteD (fun hx0 => ?_) fun _ => no j1 rfl
    refine Ok.iteD (fun hxm => ?_) fun _ => no j1 rfl
    refine Ok.iteD (fun _ => ?_) fun _ => no j1 rfl
    refine .bind (n_ok j1 (by decide) (by decide)) fun r hr5 => ?_
    unfold L.keep_Src_Plan.J19 L.keep_Src_Plan.J18
    refine Ok.iteB (fun _ => .pure ⟨hr5.1, .inr ⟨k, p, ports[k], rfl, fun h => by omega, hp, he, hx, hx0, hxm⟩⟩) fun _ => .pure ⟨hr5.1, j2⟩
  rintro ⟨L2, A2, e2⟩ ⟨j1, j2⟩
  dsimp only at j1 j2
  unfold L.keep_Src_Plan.J12
  refine Ok.iteD (fun h0 => .pure ⟨j1, .inr ⟨at_, i5, ?_⟩⟩) fun h0 => ?_
  · rcases j2 with h | h
    · dsimp only at h0; omega
    · exact h
  have he2 : e2 = -1 := by
    rcases j2 with h | ⟨kk, _, _, h, _⟩
    · exact h
    · dsimp only at h0; omega
  subst he2
  -- the segments that can be taken
  refine .bind (Q := fun out : List Int => out.length ≤ 1000 ∧ ∀ k, k ∈ out → ∃ t, HopAt n rates rate at_ k t ∧ at_ < t ∧ t < (n.Nodes.length : Int)) ?_ ?_
  · refine .forS (fun k out => out.length ≤ k ∧ ∀ k, k ∈ out → ∃ t, HopAt n rates rate at_ k t ∧ at_ < t ∧ t < (n.Nodes.length : Int)) ⟨by simp, by simp⟩ ?_ fun out ho => ⟨by have := ho.1; omega, ho.2⟩
    rintro k x out hx ⟨o1, o2⟩
    have hkl := (List.getElem?_eq_some_iff.1 hx).1
    have hxo := (hn.segs k x hx).ends
    have hxc := (hn.segs k x hx).cap
    have hrl := h.rl
    have hold : rates[k]? = some rates[k] := List.getElem?_eq_getElem (by omega)
    have hro := (h.rng k _ x hold hx).rng
    have no : ∀ {x : Bool}, x = false → Ok (L.keep_Src_Plan.J16 k out x) fun out => out.length ≤ k + 1 ∧ ∀ k, k ∈ out → ∃ t, HopAt n rates rate at_ k t ∧ at_ < t ∧ t < (n.Nodes.length : Int) := by
      intro x hx
      unfold L.keep_Src_Plan.J16 L.keep_Src_Plan.J15
      rw [hx]
      exact .pure ⟨by omega, o2⟩
    have yes : ∀ t, (x.From = at_ ∧ x.To = t ∨ x.To = at_ ∧ x.From = t) → at_ < t → Ok (L.keep_Src_Plan.J16 k out (decide ((wr ((L.keep_abs rates[k]) + rate)) ≤ (min 1000 x.Capacity)))) fun out => out.length ≤ k + 1 ∧ ∀ k, k ∈ out → ∃ t, HopAt n rates rate at_ k t ∧ at_ < t ∧ t < (n.Nodes.length : Int) := by
      intro t ht hlt
      unfold L.keep_Src_Plan.J16 L.keep_Src_Plan.J15
      refine Ok.iteD (fun hc => ?_) fun _ => .pure ⟨by omega, o2⟩
      rw [abs_eq (by omega), wr_id (by omega)] at hc
      refine .bind' (.app (by simp; omega) (.pure ⟨by simp; omega, fun k' hk' => ?_⟩))
      rcases List.mem_append.1 hk' with hk' | hk'
      · exact o2 k' hk'
      · simp at hk'; subst hk'
        exact ⟨t, ⟨k, x, rates[k], rfl, hx, hold, hlt, ht, by omega⟩, hlt, by rcases ht with h | h <;> omega⟩
    unfold L.keep_Src_Plan.B14
    dsimp only
    simp (disch := omega) only [wr_id]
    refine Ok.iteE (fun hf => ?_) fun _ => Ok.iteE (fun hf => ?_) fun _ => no rfl
    · refine Ok.iteD (fun ht => ?_) fun _ => no rfl
      exact .bind' (.ix k rfl (by omega) (yes x.To (.inl ⟨hf, rfl⟩) (by omega)))
    · refine Ok.iteD (fun ht => ?_) fun _ => no rfl
      exact .bind' (.ix k rfl (by omega) (yes x.From (.inr ⟨hf, rfl⟩) (by omega)))
  rintro out ⟨o1, o2⟩
  unfold L.keep_Src_Plan.J13
  refine Ok.iteE (fun _ => .pure ⟨j1, .inl (show (-1 : Int) < 0 by decide)⟩) fun hl => ?_
  refine .bind (n_ok j1 (by omega) (by omega)) fun r hr5 => ?_
  refine .bind' (.ix' hr5.2.1 hr5.2.2 fun k y _ hy => ?_)
  obtain ⟨t, hop, hlt, htn⟩ := o2 y (List.mem_of_getElem? hy)
  have hop' := hop
  obtain ⟨i, x, r0, rfl, hop⟩ := hop
  refine .bind' (.app (by simp; omega) ?_)
  have hil := (List.getElem?_eq_some_iff.1 hop.seg).1
  have hxo := (hn.segs i x hop.seg).ends
  refine .bind' (.eq (ix_nat hop.seg) ?_)
  dsimp only
  have he := hop.ends
  have hw : wr (wr (x.From + x.To) - at_) = t := by
    simp (disch := omega) only [wr_id]
    rcases he with h | h <;> omega
  rw [hw]
  exact .pure ⟨⟨hr5.1, rfl, ⟨by dsimp only; omega, htn⟩, by simp; omega, i5.snoc hop'⟩, by dsimp only; omega⟩

end Go.Proofs.Ytndfiddakngjdaa
