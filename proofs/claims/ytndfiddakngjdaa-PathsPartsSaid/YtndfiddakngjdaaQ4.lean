/- Dividing a plan into paths: nothing is left. No condition. -/
import Derived.Test.YtndfiddakngjdaaQ3
namespace Go.Proofs.Ytndfiddakngjdaa
set_option linter.unusedVariables false
set_option linter.unusedSimpArgs false
open Go.Aw

theorem Lt.flip {up : Bool} {a b : Int} (h : Lt up a b) : Lt (!up) b a := by
  cases up <;> simpa [Lt] using h

theorem Res.neg {n : Network} {up : Bool} {rates ports : List Int} (h : Res n up rates ports) : Res n (!up) (rates.map fun x => -x) (ports.map fun x => -x) := by
  refine ⟨by simp [h.rl], by simp [h.pl], fun k r s hr hs => ?_, fun k x hx => ?_, fun v => ?_⟩
  · rw [List.getElem?_map] at hr
    obtain ⟨r', hr', rfl⟩ := Option.map_eq_some_iff.1 hr
    have := h.rng k r' s hr' hs
    exact ⟨by omega, by omega, fun h => (this.2.2.2 (by omega)).flip, fun h => (this.2.2.1 (by omega)).flip⟩
  · rw [List.getElem?_map] at hx
    obtain ⟨r', hr', rfl⟩ := Option.map_eq_some_iff.1 hx
    have := h.prt k r' hr'
    omega
  · have := h.bal v
    rw [dot_neg, dot_neg]; omega

/-- Without anything that flows in at a port nothing flows. -/
theorem still {n : Network} (hn : NetOk n) {up : Bool} {rates ports : List Int} (h : Res n up rates ports) (hp : ∀ (k : Nat) (x : Int), ports[k]? = some x → x ≤ 0) :
    (∀ (k : Nat) (r : Int), rates[k]? = some r → r = 0) ∧ ∀ (k : Nat) (x : Int), ports[k]? = some x → x = 0 := by
  have hneg := h.neg
  have none : ∀ (m : Nat) (v : Int), far n (!up) v = m → 0 ≤ v ∧ v < (n.Nodes.length : Int) → ¬ Comes n (rates.map fun x => -x) (ports.map fun x => -x) v := by
    intro m
    induction m using Nat.strongRecOn with
    | ind m ih =>
      intro v hm hv hc
      refine leaves hneg hc (fun i p x _ _ hx => ?_) fun k s r hs hr => ?_
      · rw [List.getElem?_map] at hx
        obtain ⟨r', hr', rfl⟩ := Option.map_eq_some_iff.1 hx
        have := hp i r' hr'
        omega
      · have hrr := hneg.rng k r s hr hs
        have he := (hn.segs k s hs).ends
        refine ⟨fun ⟨h1, h2⟩ => ?_, fun ⟨h1, h2⟩ => ?_⟩
        · have hl := hrr.2.2.1 h1
          rw [h2] at hl
          exact ih (far n (!up) s.To) (by have := far_lt hv (by omega) hl; omega) s.To rfl (by omega) (.inr ⟨k, s, r, hs, hr, by omega, .inl ⟨h1, rfl⟩⟩)
        · have hl := hrr.2.2.2 h1
          rw [h2] at hl
          exact ih (far n (!up) s.From) (by have := far_lt hv (by omega) hl; omega) s.From rfl (by omega) (.inr ⟨k, s, r, hs, hr, by omega, .inr ⟨h1, rfl⟩⟩)
  constructor
  · intro k r hr
    have hkl := (List.getElem?_eq_some_iff.1 hr).1
    have hs : n.Segments[k]? = some (n.Segments[k]'(by have := h.rl; omega)) := List.getElem?_eq_getElem _
    generalize n.Segments[k]'(by have := h.rl; omega) = s at hs
    have he := (hn.segs k s hs).ends
    have hr' : (rates.map fun x => -x)[k]? = some (-r) := by rw [List.getElem?_map, hr]; rfl
    rcases Int.lt_trichotomy r 0 with hr0 | hr0 | hr0
    · exact (none _ s.To rfl (by omega) (.inr ⟨k, s, -r, hs, hr', by omega, .inl ⟨by omega, rfl⟩⟩)).elim
    · exact hr0
    · exact (none _ s.From rfl (by omega) (.inr ⟨k, s, -r, hs, hr', by omega, .inr ⟨by omega, rfl⟩⟩)).elim
  · intro k x hx
    have hkl := (List.getElem?_eq_some_iff.1 hx).1
    have hs : n.Ports[k]? = some (n.Ports[k]'(by have := h.pl; omega)) := List.getElem?_eq_getElem _
    generalize n.Ports[k]'(by have := h.pl; omega) = q at hs
    have he := (hn.ports k q hs).node
    have hx' : (ports.map fun x => -x)[k]? = some (-x) := by rw [List.getElem?_map, hx]; rfl
    have := hp k x hx
    by_cases hx0 : x = 0
    · exact hx0
    · exact (none _ q.Node rfl he (.inl ⟨k, q, -x, hs, rfl, hx', by omega⟩)).elim

/-- The paths of a plan. -/
structure Divided (n : Network) (up : Bool) (p : Plan) (out : List Path) : Prop where
  res : Res n up p.Rates p.Ports
  sumR : ∀ (k : Nat) (r : Int), p.Rates[k]? = some r → r = segSum k out
  sumP : ∀ (k : Nat) (r : Int), p.Ports[k]? = some r → r = portSum k out
  paths : ∀ x, x ∈ out → PathOk n p x
  apart : ∀ (i j : Nat) (x y : Path), i < j → out[i]? = some x → out[j]? = some y → ¬ (x.In = y.In ∧ x.Out = y.Out ∧ x.Hops = y.Hops)
  count : out.length ≤ 14

theorem clone_ok {l : List Int} (h : l.length ≤ 1000) : L.slices_Clone_int_int l = some l := by
  unfold L.slices_Clone_int_int
  rw [app?_eq (by simp; omega)]; rfl

theorem divide_ok {n : Network} (hn : NetOk n) {p : Plan} (hp : PlanOk n p) : Ok (L.paths_Divide n p) fun r => r.2 = 0 ∧ ∃ up, Divided n up p r.1 := by
  obtain ⟨up, hres⟩ := hp.res
  have h1 := hn.segs1; have h2 := hn.ports1; have h3 := hp.rl; have h4 := hp.pl
  have hcnt : nz p.Rates + nz p.Ports ≤ 14 := by have := nz_len p.Rates; have := nz_len p.Ports; omega
  unfold L.paths_Divide
  rw [netCheck hn, flowCheck hn hp]
  refine .bind' (.pure (Ok.iteU (fun h => absurd rfl h) fun _ => .bind' (.pure (Ok.iteU (fun h => absurd rfl h) fun _ => ?_))))
  rw [clone_ok (by omega), clone_ok (by omega)]
  refine .bind' (.pure (.bind' (.pure ?_)))
  refine .bind' (.forI (S := List ByteArray × List Segment × List Port × List Station × Int × Int × List Int × List Int × List Path) (fun k st => ∃ rates ports out, st = (n.Nodes, n.Segments, n.Ports, n.Stations, n.Vapour, n.Settle, rates, ports, out) ∧ DInv n up p rates ports out ∧ ∀ (j : Nat) (z : Int), j < k → ports[j]? = some z → z ≤ 0)
    (fun _ => False) ⟨_, _, _, rfl, .start hres, fun j z h => absurd h (Nat.not_lt_zero _)⟩ ?_ ?_ fun _ h => h.elim)
  · rintro k _ hk ⟨rates, ports, out, rfl, hi, hz⟩
    unfold L.paths_Divide.B2
    dsimp only
    refine .bind (Q := fun d : ((List Path) × Int) ⊕ (List ByteArray × List Segment × List Port × List Station × Int × Int × List Int × List Int × List Path) => ∃ rates ports out, d = .inr (n.Nodes, n.Segments, n.Ports, n.Stations, n.Vapour, n.Settle, rates, ports, out) ∧ DInv n up p rates ports out ∧ ∀ (j : Nat) (z : Int), j < k + 1 → ports[j]? = some z → z ≤ 0) ?_ ?_
    · refine .loop (S := List ByteArray × List Segment × List Port × List Station × Int × Int × List Int × List Int × List Path) (fun st => ∃ rates ports out, st = (n.Nodes, n.Segments, n.Ports, n.Stations, n.Vapour, n.Settle, rates, ports, out) ∧ DInv n up p rates ports out ∧ ∀ (j : Nat) (z : Int), j < k → ports[j]? = some z → z ≤ 0)
        (fun st => nz st.2.2.2.2.2.2.1 + nz st.2.2.2.2.2.2.2.1) ⟨rates, ports, out, rfl, hi, hz⟩ (by have := hi.count; dsimp only; omega) ?_
      rintro _ ⟨rates, ports, out, rfl, hi, hz⟩
      have hpl := hi.res.pl
      have hx : ports[k]? = some (ports[k]'(by omega)) := List.getElem?_eq_getElem _
      generalize ports[k]'(by omega) = x at hx
      unfold L.paths_Divide.B4
      refine .bind' (.eq (ix_nat hx) (Ok.iteD (fun hpos => ?_) fun hneg => .pure ⟨rates, ports, out, rfl, hi, fun j z hj hjz => ?_⟩))
      · dsimp only at hpos ⊢
        refine .bind (follow_ok hn hi.res hx hpos) ?_
        rintro ⟨y, d⟩ ⟨o, p0, po, y1, nd, f⟩
        dsimp only at f
        obtain ⟨g1, g2, g3⟩ := hi.follow hres f
        have hc := hi.count
        have hf := f.len
        refine Ok.iteB (fun hb => ?_) fun _ => .bind' (.app (by simp; omega) (.pure ⟨⟨d.rates, d.ports, out ++ [y], ?_, g1, fun j z hj hjz => ?_⟩, g2⟩))
        · simp at hb; omega
        · rw [f.net]
        · rcases g3 j z hjz with h | h | h
          · exact hz j z hj h
          · exact h
          · omega
      · dsimp only at hneg
        by_cases hjk : j = k
        · subst hjk; rw [hx] at hjz; simp at hjz; omega
        · exact hz j z (by omega) hjz
    · rintro _ ⟨rates, ports, out, rfl, hi, hz⟩
      simp only [Sum.elim_inr]
      unfold L.paths_Divide.J3
      exact .pure ⟨rates, ports, out, rfl, hi, hz⟩
  · rintro _ ⟨rates, ports, out, rfl, hi, hz⟩
    simp only [Sum.elim_inl]
    unfold L.paths_Divide.J1
    have hpl := hi.res.pl; have hrl := hi.res.rl
    obtain ⟨s1, s2⟩ := still hn hi.res fun k x hx => hz k x (by have := (List.getElem?_eq_some_iff.1 hx).1; omega) hx
    refine .pure ⟨rfl, up, hres, fun k r hr => ?_, fun k r hr => ?_, hi.paths, hi.apart, by have := hi.count; dsimp only; omega⟩
    · have hkl := (List.getElem?_eq_some_iff.1 hr).1
      have hq : rates[k]? = some (rates[k]'(by omega)) := List.getElem?_eq_getElem _
      have := hi.sumR k _ r hq hr
      have := s1 k _ hq
      dsimp only; omega
    · have hkl := (List.getElem?_eq_some_iff.1 hr).1
      have hq : ports[k]? = some (ports[k]'(by omega)) := List.getElem?_eq_getElem _
      have := hi.sumP k _ r hq hr
      have := s2 k _ hq
      dsimp only; omega

end Go.Proofs.Ytndfiddakngjdaa
