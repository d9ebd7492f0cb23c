/- The plans that a reader of numbers gives are balanced. No condition. -/
import Derived.Test.YtndfiddakngjdaaP5
namespace Go.Proofs.Ytndfiddakngjdaa
set_option linter.unusedVariables false
set_option linter.unusedSimpArgs false
open Go.Aw

/-- A valid plan. -/
structure PlanOk (n : Network) (p : Plan) : Prop where
  rl : p.Rates.length = n.Segments.length
  pl : p.Ports.length = n.Ports.length
  ml : p.Pumps.length = n.Stations.length
  rng : ∀ (k : Nat) (r : Int) (s : Segment), p.Rates[k]? = some r → n.Segments[k]? = some s → -1000 ≤ r ∧ r ≤ 1000 ∧ -s.Capacity ≤ r ∧ r ≤ s.Capacity
  prt : ∀ (k : Nat) (x : Int), p.Ports[k]? = some x → -1000 ≤ x ∧ x ≤ 1000
  bal : ∀ v, dot (wt n v) p.Rates + dot (wp n v) p.Ports = 0
  dir : (∀ (k : Nat) (r : Int) (s : Segment), p.Rates[k]? = some r → n.Segments[k]? = some s → (0 < r → s.From < s.To) ∧ (r < 0 → s.To < s.From)) ∨
    (∀ (k : Nat) (r : Int) (s : Segment), p.Rates[k]? = some r → n.Segments[k]? = some s → (0 < r → s.To < s.From) ∧ (r < 0 → s.From < s.To))

theorem streams_ok {n : Network} (hn : NetOk n) {s : Src} (hs : SrcOk s) {rates ports : List Int} {c : Int} (hc : 0 ≤ c ∧ c < 5) (h : PlInv n rates ports) :
    Ok (loopN (L.keep_Src_Plan.B4 n) lots (s.L_, s.At, rates, ports, c)) fun d => SrcOk ⟨d.1, d.2.1⟩ ∧ PlInv n d.2.2.1 d.2.2.2 := by
  have hpn := hn.ports1
  refine .loop (fun st : List Int × Int × List Int × List Int × Int => SrcOk ⟨st.1, st.2.1⟩ ∧ PlInv n st.2.2.1 st.2.2.2.1 ∧ 0 ≤ st.2.2.2.2 ∧ st.2.2.2.2 < 5) (fun st => st.2.2.2.2.toNat) ⟨hs, h, hc⟩ (by dsimp only; omega) ?_
  rintro ⟨L_, At, rates, ports, c⟩ ⟨i1, i2, i3⟩
  dsimp only at i1 i2 i3
  unfold L.keep_Src_Plan.B4
  refine Ok.iteD (fun h0 => ?_) fun _ => .pure ⟨i1, i2⟩
  dsimp only at h0
  have j5 : ∀ j : List Int × Int × List Int × List Int, SrcOk ⟨j.1, j.2.1⟩ → PlInv n j.2.2.1 j.2.2.2 → Ok (L.keep_Src_Plan.J5 (L_, At, rates, ports, c) j)
      (Sum.elim (fun st => (SrcOk ⟨st.1, st.2.1⟩ ∧ PlInv n st.2.2.1 st.2.2.2.1 ∧ 0 ≤ st.2.2.2.2 ∧ st.2.2.2.2 < 5) ∧ st.2.2.2.2.toNat < c.toNat) fun d => SrcOk ⟨d.1, d.2.1⟩ ∧ PlInv n d.2.2.1 d.2.2.2) := by
    intro j h1 h2
    unfold L.keep_Src_Plan.J5
    dsimp only
    rw [wr_id (by omega)]
    exact .pure ⟨⟨h1, h2, by dsimp only; omega⟩, by dsimp only; omega⟩
  refine .bind (n_ok i1 (by omega) (by omega)) fun r4095 h4095 => ?_
  obtain ⟨ai, sa⟩ := r4095
  dsimp only at h4095
  obtain ⟨a, rfl⟩ := nat_of h4095.2.1
  have hal : a < n.Ports.length := by omega
  have hpa : n.Ports[a]? = some n.Ports[a] := List.getElem?_eq_getElem hal
  have hpo := (hn.ports a _ hpa).node
  refine .bind' (.eq (ix_nat hpa) ?_)
  refine .bind (pick_ok h4095.1 (by decide) (by decide)) fun r4101 h4101 => ?_
  have c1 := h4101.2
  simp only [List.mem_cons, List.not_mem_nil, or_false] at c1
  refine .bind (range_ok h4101.1 (by omega) (by omega) (by omega)) fun r4103 h4103 => ?_
  obtain ⟨rate, s⟩ := r4103
  dsimp only at h4103
  have hrate : 1 ≤ rate ∧ rate ≤ 300 := by omega
  have hxl : a < ports.length := by have := i2.pl; omega
  have hx : ports[a]? = some ports[a] := List.getElem?_eq_getElem hxl
  have hxr := i2.prt a _ hx
  refine .bind' (.eq (ix_nat hx) ?_)
  dsimp only
  have j6t : Ok (L.keep_Src_Plan.J6 n (L_, At, rates, ports, c) ((a : Int), sa) (a, n.Ports[a]) (rate, s) true)
      (Sum.elim (fun st => (SrcOk ⟨st.1, st.2.1⟩ ∧ PlInv n st.2.2.1 st.2.2.2.1 ∧ 0 ≤ st.2.2.2.2 ∧ st.2.2.2.2 < 5) ∧ st.2.2.2.2.toNat < c.toNat) fun d => SrcOk ⟨d.1, d.2.1⟩ ∧ PlInv n d.2.2.1 d.2.2.2) := by
    unfold L.keep_Src_Plan.J6
    exact j5 (_, _, _, _) h4103.1 i2
  rw [wr_id (by omega)]
  refine Ok.iteD (fun _ => j6t) fun hx0 => ?_
  by_cases hbig : ports[a] + rate > 1000
  · simp only [hbig, decide_true]; exact j6t
  simp only [hbig, decide_false]
  unfold L.keep_Src_Plan.J6
  refine .bind (way_ok hn i2 hrate h4103.1 hpo) ?_
  rintro ⟨L2, A2, way, e⟩ ⟨w1, w2⟩
  dsimp only at w1 w2
  unfold L.keep_Src_Plan.J7
  refine Ok.iteD (fun _ => j5 (_, _, _, _) w1 i2) fun he => ?_
  dsimp only at he
  obtain ⟨t, ⟨nd, n0, n1, n2⟩, kk, p, x, rfl, hka, hp, hpt, hxk, hx0', hxm⟩ := w2.resolve_left he
  have hkl := (List.getElem?_eq_some_iff.1 hxk).1
  have hxkr := i2.prt kk _ hxk
  refine .bind' (.eq (ix_nat hx) (.bind' (.eq (ix_nat hxk) ?_)))
  dsimp only
  rw [wr_id (by omega)]
  have hset : (ports.set a (ports[a] + rate))[kk]? = some x := by rw [List.getElem?_set_ne (Ne.symm hka)]; exact hxk
  refine .bind' (.eq (ix_nat hset) ?_)
  dsimp only
  rw [wr_id (by omega)]
  unfold L.keep_Src_Plan.J8
  refine .bind (carry_ok i2 hrate n2) fun st hst => ?_
  obtain ⟨s1, s2, s3⟩ := hst
  dsimp only at s1 s2 s3
  refine j5 (_, _, _, _) w1 ⟨by dsimp only; rw [s1]; exact i2.rl, by simp [i2.pl], s2, fun k y hk => ?_, fun v => ?_⟩
  · dsimp only at hk
    rw [get_set] at hk
    split at hk
    · simp at hk; omega
    · rw [get_set] at hk
      split at hk
      · simp at hk; omega
      · exact i2.prt k y hk
  · have w1 : (wp n v)[a]? = some (ind n.Ports[a].Node v) := by unfold wp; rw [List.getElem?_map, hpa]; rfl
    have w2 : (wp n v)[kk]? = some (ind p.Node v) := by unfold wp; rw [List.getElem?_map, hp]; rfl
    dsimp only
    rw [dot_set w2 hset, dot_set w1 hx, s3 v, n0, n1, hpt]
    have := i2.bal v
    have e1 : ind n.Ports[a].Node v * (ports[a] + rate - ports[a]) = rate * ind n.Ports[a].Node v := by rw [show ports[a] + rate - ports[a] = rate by omega, Int.mul_comm]
    have e2 : ind t v * (x - rate - x) = -(rate * ind t v) := by rw [show x - rate - x = -rate by omega, Int.mul_neg, Int.mul_comm]
    rw [e1, e2]
    omega

theorem plan_ok {n : Network} (hn : NetOk n) {s : Src} (hs : SrcOk s) : Ok (L.keep_Src_Plan s n) fun r => PlanOk n r.1 ∧ SrcOk r.2 := by
  have h1 := hn.segs1; have h2 := hn.ports1; have h3 := hn.sts1
  unfold L.keep_Src_Plan
  refine .bind' (.mk n.Segments.length rfl (by omega) (.bind' (.mk n.Ports.length rfl (by omega) ?_)))
  unfold L.keep_Src_Plan.J1
  refine .bind (Q := fun d : List Int × Int × List Bool => SrcOk ⟨d.1, d.2.1⟩ ∧ d.2.2.length = n.Stations.length) ?_ ?_
  · refine .loop (fun st : List Int × Int × List Bool × Int => SrcOk ⟨st.1, st.2.1⟩ ∧ (st.2.2.1.length : Int) = st.2.2.2 ∧ st.2.2.1.length ≤ n.Stations.length) (fun st => n.Stations.length - st.2.2.1.length) ⟨hs, by simp, by simp⟩ (by dsimp only; omega) ?_
    rintro ⟨L_, At, pumps, i⟩ ⟨i1, i2, i3⟩
    dsimp only at i1 i2 i3
    unfold L.keep_Src_Plan.B20
    refine Ok.iteD (fun h0 => ?_) fun h0 => .pure ⟨i1, by dsimp only at h0 ⊢; omega⟩
    dsimp only at h0 ⊢
    refine .bind (n_ok i1 (by decide) (by decide)) fun r hr => .bind' (.app (by simp; omega) (.pure ?_))
    rw [wr_id (by omega)]
    exact ⟨⟨hr.1, by simp; omega, by simp; omega⟩, by simp; omega⟩
  rintro ⟨L_, At, pumps⟩ ⟨i1, i2⟩
  dsimp only at i1 i2
  unfold L.keep_Src_Plan.J2
  refine .bind (n_ok i1 (by decide) (by decide)) fun r51 h51 => .bind (n_ok h51.1 (by decide) (by decide)) fun r1787 h1787 => ?_
  refine .bind (streams_ok hn h1787.1 h1787.2 ⟨by simp, by simp, fun k r s hr hs => ?_, fun k x hx => ?_, fun v => ?_⟩) ?_
  · have := List.mem_of_getElem? hr
    simp at this
    have hc := (hn.segs k s hs).cap
    exact ⟨by omega, fun _ => by omega, fun _ => by omega⟩
  · have := List.mem_of_getElem? hx
    simp at this
    omega
  · rw [dot_zero, dot_zero]; omega
  rintro ⟨L2, A2, rates, ports⟩ ⟨j1, j2⟩
  dsimp only at j1 j2
  have hr0 : ∀ (k : Nat) (r : Int), rates[k]? = some r → -1000000 ≤ r ∧ r ≤ 1000000 := fun k r hr => by
    have hk := (List.getElem?_eq_some_iff.1 hr).1
    have hs : n.Segments[k]? = some _ := List.getElem?_eq_getElem (by have := j2.rl; omega)
    have := (j2.rng k r _ hr hs).rng
    omega
  unfold L.keep_Src_Plan.J3
  refine Ok.iteE (fun _ => ?_) fun _ => .pure ⟨⟨j2.rl, j2.pl, i2, fun k r s hr hs => (j2.rng k r s hr hs).rng, j2.prt, j2.bal, .inl fun k r s hr hs => ?_⟩, j1⟩
  · refine .bind' (.eq (negated_ok (by dsimp only; have := j2.rl; omega) (by dsimp only; have := j2.pl; omega) (by dsimp only; omega) hr0 fun k x hx => by have := j2.prt k x hx; omega) (.pure ⟨⟨by simp [j2.rl], by simp [j2.pl], i2, fun k r s hr hs => ?_, fun k x hx => ?_, fun v => ?_, .inr fun k r s hr hs => ?_⟩, j1⟩))
    · dsimp only at hr
      rw [List.getElem?_map] at hr
      obtain ⟨r', hr', rfl⟩ := Option.map_eq_some_iff.1 hr
      have := (j2.rng k r' s hr' hs).rng
      omega
    · dsimp only at hx
      rw [List.getElem?_map] at hx
      obtain ⟨r', hr', rfl⟩ := Option.map_eq_some_iff.1 hx
      have := j2.prt k r' hr'
      omega
    · dsimp only
      rw [dot_neg, dot_neg]
      have := j2.bal v
      omega
    · dsimp only at hr
      rw [List.getElem?_map] at hr
      obtain ⟨r', hr', rfl⟩ := Option.map_eq_some_iff.1 hr
      have h5 := j2.rng k r' s hr' hs
      have h6 := (hn.segs k s hs).ends
      have := h5.up; have := h5.down
      omega
  · have h5 := j2.rng k r s hr hs
    have h6 := (hn.segs k s hs).ends
    have := h5.up; have := h5.down
    omega

end Go.Proofs.Ytndfiddakngjdaa
