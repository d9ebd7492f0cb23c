/- Plain proofs. No condition. -/
import Derived.Test.YtaoclefkknloiaaGreatZvP0
import Derived.Test.YtaoclefkknloiaaGreatZvD
set_option maxRecDepth 100000
namespace Go.Proofs.YtaoclefkknloiaaGreat
set_option linter.unusedVariables false
set_option linter.unusedSimpArgs false
open Go.Aw
theorem sP {x : Int} (h : -1000000 ≤ x ∧ x ≤ 1000000) : Ik x = max x (-x) := by
 unfold Ik
 rw [Be (by omega), Int.zero_sub]
theorem kV {l : Li} {f : Nat → Int → Li → Option Li} (hf : ∀ k x st, f k x st = (Cp st [wr (0 - x)]).bind fun y => some y) (hl : l.length ≤ 1000) (W : ∀ (k : Nat) (x : Int), l[k]? = some x → -1000000 ≤ x ∧ x ≤ 1000000) :
  Ok (forS f 0 l []) fun r => r = l.map fun x => -x := by
 refine .forS (fun k st => st = (l.take k).map fun x => -x) (by simp) ?_ fun st h => by rw [h]; simp
 rintro k x st M rfl
 rw [hf]
 have Y := (gs M).1
 have := W k x M
 refine .bind' (.app (by simp; omega) (.pure ?_))
 rw [List.take_add_one, M, Be (by omega)]
 simp
theorem bC {p : Plan} (h1 : p.Rates.length ≤ 1000) (h2 : p.Ports.length ≤ 1000) (Y : p.Pumps.length ≤ 1000) (M : ∀ (k : Nat) (x : Int), p.Rates[k]? = some x → -1000000 ≤ x ∧ x ≤ 1000000)
  (W : ∀ (k : Nat) (x : Int), p.Ports[k]? = some x → -1000000 ≤ x ∧ x ≤ 1000000) : Wq p = some ⟨p.Rates.map fun x => -x, p.Ports.map fun x => -x, p.Pumps⟩ := by
 refine Z5 ?_
 unfold Wq
 refine .bind' (.app (by simp; omega) (.bind (kV (fun _ _ _ => rfl) h1 M) ?_))
 rintro _ rfl
 unfold Wq.J1
 refine .bind (kV (fun _ _ _ => rfl) h2 W) ?_
 rintro _ rfl
 unfold Wq.J2
 exact .pure (by simp)
def WayTo (n : Nw) (rates : Li) (rate M : Int) (way : Li) (t : Int) : Prop :=
 ∃ nd : Nat → Int, nd 0 = M ∧ nd way.length = t ∧ ∀ (j : Nat) (k : Int), way[j]? = some k → Qh n rates rate (nd j) k (nd (j + 1))
theorem WayTo.snoc {n : Nw} {rates : Li} {rate W : Int} {way : Li} {m k t : Int} (h : WayTo n rates rate W way m) (hk : Qh n rates rate m k t) : WayTo n rates rate W (way ++ [k]) t := by
 obtain ⟨nd, Y, Z, h3⟩ := h
 refine ⟨fun i => if i ≤ way.length then nd i else t, by simp [Y], by simp; omega, fun j k' M => ?_⟩
 rw [List.getElem?_append] at M
 split at M
 ·rename_i hjl
  have := h3 j k' M
  dsimp only
  rw [if_pos (by omega), if_pos (by omega)]; exact this
 ·have hb := (gs M).1
  simp at hb
  have : j = way.length := by omega
  subst this
  simp at M; subst M
  dsimp only
  rw [if_pos (by omega), if_neg (by omega), Z]; exact hk
def cM (n : Nw) (ports : Li) (rate : Int) (a : Nat) (t e : Int) : Prop :=
 ∃ (M : Nat) (p : Port) (x : Int), e = (M : Int) ∧ M ≠ a ∧ n.Ports[M]? = some p ∧ p.Node = t ∧ ports[M]? = some x ∧ x ≤ 0 ∧ x - rate ≥ -1000
theorem rO {n : Nw} (hn : NetOk n) {rates ports : Li} {rate : Int} {a : Nat} {l0 : Li} {q0 c0 s0 : Int} {sa s : V4} (h : PlInv n rates ports) (hr : 1 ≤ rate ∧ rate ≤ 300) (hs : SrcOk s)
  (h0 : 0 ≤ s0 ∧ s0 < (n.Nodes.length : Int)) :
  Ok (C4 (Rk.B11 n (l0, q0, rates, ports, c0) ((a : Int), sa) (rate, s)) Ek (s.L_, s.At, s0, [], -1)) fun d => SrcOk ⟨d.1, d.2.1⟩ ∧ (d.2.2.2 < 0 ∨ ∃ t, WayTo n rates rate s0 d.2.2.1 t ∧ cM n ports rate a t d.2.2.2) := by
 have hnn := hn.nodes
 have hsn := hn.segs1
 refine .loop (fun st : Li × Int × Int × Li × Int => SrcOk ⟨st.1, st.2.1⟩ ∧ st.2.2.2.2 = -1 ∧ (0 ≤ st.2.2.1 ∧ st.2.2.1 < (n.Nodes.length : Int)) ∧ (st.2.2.2.1.length : Int) ≤ st.2.2.1 ∧ WayTo n rates rate s0 st.2.2.2.1 st.2.2.1) (fun st => n.Nodes.length - st.2.2.1.toNat)
  ⟨hs, rfl, h0, by simp; omega, fun _ => s0, rfl, rfl, by simp⟩ (by dsimp only; omega) ?_
 rintro ⟨L_, At, M, way, e⟩ ⟨i1, i2, i3, i4, i5⟩
 dsimp only at i1 i2 i3 i4 i5
 subst i2
 unfold Rk.B11
 refine A8 (fun _ => ?_) fun h => absurd (show (-1 : Int) < 0 by decide) h
 refine .bind (Q := fun d : Li × Int × Int => SrcOk ⟨d.1, d.2.1⟩ ∧ (d.2.2 = -1 ∨ cM n ports rate a M d.2.2)) ?_ ?_
 ·refine .forS (fun _ d => SrcOk ⟨d.1, d.2.1⟩ ∧ (d.2.2 = -1 ∨ cM n ports rate a M d.2.2)) ⟨i1, .inl rfl⟩ ?_ fun _ h => h
  rintro k p ⟨L2, A2, e2⟩ hp ⟨j1, j2⟩
  dsimp only at j1 j2
  have no : ∀ {x : Li × Int × Bool}, SrcOk ⟨x.1, x.2.1⟩ → x.2.2 = false → Ok (Rk.J19 k (L2, A2, e2) x) fun d => SrcOk ⟨d.1, d.2.1⟩ ∧ (d.2.2 = -1 ∨ cM n ports rate a M d.2.2) := by
   intro x h1 h2
   unfold Rk.J19 Rk.J18
   rw [h2]
   exact .pure ⟨h1, j2⟩
  have hkl := (gs hp).1
  have hpl := h.pl
  unfold Rk.B17
  refine Dc (fun he => ?_) fun _ => no j1 rfl
  refine Ec (fun hka => ?_) fun _ => no j1 rfl
  refine .bind' (.ix k rfl (by dsimp only; omega) ?_)
  have hx : ports[k]? = some ports[k] := gq (by omega)
  have hxr := h.prt k _ hx
  dsimp only
  rw [Be (by omega)]
  refine A8 (fun hx0 => ?_) fun _ => no j1 rfl
  refine A8 (fun hxm => ?_) fun _ => no j1 rfl
  refine A8 (fun _ => ?_) fun _ => no j1 rfl
  refine .bind (E4 j1 (by decide) (by decide)) fun r aa => ?_
  unfold Rk.J19 Rk.J18
  refine Bo (fun _ => .pure ⟨aa.1, .inr ⟨k, p, ports[k], rfl, fun h => by omega, hp, he, hx, hx0, hxm⟩⟩) fun _ => .pure ⟨aa.1, j2⟩
 rintro ⟨L2, A2, e2⟩ ⟨j1, j2⟩
 dsimp only at j1 j2
 unfold Rk.J12
 refine A8 (fun h0 => .pure ⟨j1, .inr ⟨M, i5, ?_⟩⟩) fun h0 => ?_
 ·rcases j2 with h | h
  ·dsimp only at h0; omega
  ·exact h
 have he2 : e2 = -1 := by
  rcases j2 with h | ⟨kk, _, _, h, _⟩
  ·exact h
  ·dsimp only at h0; omega
 subst he2
 refine .bind (Q := fun W : Li => W.length ≤ 1000 ∧ ∀ k, k ∈ W → ∃ t, Qh n rates rate M k t ∧ M < t ∧ t < (n.Nodes.length : Int)) ?_ ?_
 ·refine .forS (fun k W => W.length ≤ k ∧ ∀ k, k ∈ W → ∃ t, Qh n rates rate M k t ∧ M < t ∧ t < (n.Nodes.length : Int)) ⟨by simp, by simp⟩ ?_ fun W ho => ⟨by have := ho.1; omega, ho.2⟩
  rintro k x W hx ⟨o1, o2⟩
  have hkl := (gs hx).1
  have hxo := (hn.segs k x hx).ends
  have hxc := (hn.segs k x hx).cap
  have hrl := h.rl
  have hold : rates[k]? = some rates[k] := gq (by omega)
  have hro := (h.rng k _ x hold hx).rng
  have no : ∀ {x : Bool}, x = false → Ok (Rk.J16 k W x) fun W => W.length ≤ k + 1 ∧ ∀ k, k ∈ W → ∃ t, Qh n rates rate M k t ∧ M < t ∧ t < (n.Nodes.length : Int) := by
   intro x hx
   unfold Rk.J16 Rk.J15
   rw [hx]
   exact .pure ⟨by omega, o2⟩
  have yes : ∀ t, (x.From = M ∧ x.To = t ∨ x.To = M ∧ x.From = t) → M < t → Ok (Rk.J16 k W (decide ((wr ((Ik rates[k]) + rate)) ≤ (min 1000 x.Capacity)))) fun W => W.length ≤ k + 1 ∧ ∀ k, k ∈ W → ∃ t, Qh n rates rate M k t ∧ M < t ∧ t < (n.Nodes.length : Int) := by
   intro t ht hlt
   unfold Rk.J16 Rk.J15
   refine A8 (fun hc => ?_) fun _ => .pure ⟨by omega, o2⟩
   rw [sP (by omega), Be (by omega)] at hc
   refine .bind' (.app (by simp; omega) (.pure ⟨by simp; omega, fun k' Z => ?_⟩))
   rcases List.mem_append.1 Z with Z | Z
   ·exact o2 k' Z
   ·simp at Z; subst Z
    exact ⟨t, ⟨k, x, rates[k], rfl, hx, hold, hlt, ht, by omega⟩, hlt, by rcases ht with h | h <;> omega⟩
  unfold Rk.B14
  dsimp only
  simp (disch := omega) only [Be]
  refine Dc (fun hf => ?_) fun _ => Dc (fun hf => ?_) fun _ => no rfl
  ·refine A8 (fun ht => ?_) fun _ => no rfl
   exact .bind' (.ix k rfl (by omega) (yes x.To (.inl ⟨hf, rfl⟩) (by omega)))
  ·refine A8 (fun ht => ?_) fun _ => no rfl
   exact .bind' (.ix k rfl (by omega) (yes x.From (.inr ⟨hf, rfl⟩) (by omega)))
 rintro W ⟨o1, o2⟩
 unfold Rk.J13
 refine Dc (fun _ => .pure ⟨j1, .inl (show (-1 : Int) < 0 by decide)⟩) fun hl => ?_
 refine .bind (E4 j1 (by omega) (by omega)) fun r aa => ?_
 refine .bind' (.ix' aa.2.1 aa.2.2 fun k y _ hy => ?_)
 obtain ⟨t, Y, hlt, htn⟩ := o2 y (mg hy)
 have hop' := Y
 obtain ⟨i, x, r0, rfl, Y⟩ := Y
 refine .bind' (.app (by simp; omega) ?_)
 have hil := (gs Y.seg).1
 have hxo := (hn.segs i x Y.seg).ends
 refine .bind' (.eq (A1 Y.seg) ?_)
 dsimp only
 have he := Y.ends
 have hw : wr (wr (x.From + x.To) - M) = t := by
  simp (disch := omega) only [Be]
  rcases he with h | h <;> omega
 rw [hw]
 exact .pure ⟨⟨aa.1, rfl, ⟨by dsimp only; omega, htn⟩, by simp; omega, i5.snoc hop'⟩, by dsimp only; omega⟩
structure PlanOk (n : Network) (p : Plan) : Prop where
 rl : p.Rates.length = n.Segments.length
 pl : p.Ports.length = n.Ports.length
 ml : p.Pumps.length = n.Stations.length
 rng : ∀ (k : Nat) (r : Int) (s : Sg), p.Rates[k]? = some r → n.Segments[k]? = some s → -1000 ≤ r ∧ r ≤ 1000 ∧ -s.Capacity ≤ r ∧ r ≤ s.Capacity
 prt : ∀ (k : Nat) (x : Int), p.Ports[k]? = some x → -1000 ≤ x ∧ x ≤ 1000
 bal : ∀ v, Gr (wt n v) p.Rates + Gr (wp n v) p.Ports = 0
 dir : (∀ (k : Nat) (r : Int) (s : Sg), p.Rates[k]? = some r → n.Segments[k]? = some s → (0 < r → s.From < s.To) ∧ (r < 0 → s.To < s.From)) ∨
  (∀ (k : Nat) (r : Int) (s : Sg), p.Rates[k]? = some r → n.Segments[k]? = some s → (0 < r → s.To < s.From) ∧ (r < 0 → s.From < s.To))
theorem aX {n : Nw} (hn : NetOk n) {s : V4} (hs : SrcOk s) {rates ports : Li} {c : Int} (hc : 0 ≤ c ∧ c < 5) (h : PlInv n rates ports) :
  Ok (C4 (Rk.B4 n) Ek (s.L_, s.At, rates, ports, c)) fun d => SrcOk ⟨d.1, d.2.1⟩ ∧ PlInv n d.2.2.1 d.2.2.2 := by
 have hpn := hn.ports1
 refine .loop (fun W : Li × Int × Li × Li × Int => SrcOk ⟨W.1, W.2.1⟩ ∧ PlInv n W.2.2.1 W.2.2.2.1 ∧ 0 ≤ W.2.2.2.2 ∧ W.2.2.2.2 < 5) (fun W => W.2.2.2.2.toNat) ⟨hs, h, hc⟩ (by dsimp only; omega) ?_
 rintro ⟨L_, At, rates, ports, c⟩ ⟨i1, i2, i3⟩
 dsimp only at i1 i2 i3
 unfold Rk.B4
 refine A8 (fun h0 => ?_) fun _ => .pure ⟨i1, i2⟩
 dsimp only at h0
 have j5 : ∀ j : Li × Int × Li × Li, SrcOk ⟨j.1, j.2.1⟩ → PlInv n j.2.2.1 j.2.2.2 → Ok (Rk.J5 (L_, At, rates, ports, c) j)
   (Sum.elim (fun W => (SrcOk ⟨W.1, W.2.1⟩ ∧ PlInv n W.2.2.1 W.2.2.2.1 ∧ 0 ≤ W.2.2.2.2 ∧ W.2.2.2.2 < 5) ∧ W.2.2.2.2.toNat < c.toNat) fun d => SrcOk ⟨d.1, d.2.1⟩ ∧ PlInv n d.2.2.1 d.2.2.2) := by
  intro j h1 h2
  unfold Rk.J5
  dsimp only
  rw [Be (by omega)]
  exact .pure ⟨⟨h1, h2, by dsimp only; omega⟩, by dsimp only; omega⟩
 refine .bind (E4 i1 (by omega) (by omega)) fun r4095 Y => ?_
 obtain ⟨ai, sa⟩ := r4095
 dsimp only at Y
 obtain ⟨a, rfl⟩ := Et Y.2.1
 have hal : a < n.Ports.length := by omega
 have hpa : n.Ports[a]? = some n.Ports[a] := gq hal
 have hpo := (hn.ports a _ hpa).node
 refine .bind' (.eq (A1 hpa) ?_)
 refine .bind (C8 Y.1 (by decide) (by decide)) fun r4101 h4101 => ?_
 have c1 := h4101.2
 simp only [List.mem_cons, List.not_mem_nil, or_false] at c1
 refine .bind (Gf h4101.1 (by omega) (by omega) (by omega)) fun r4103 Z => ?_
 obtain ⟨M, s⟩ := r4103
 dsimp only at Z
 have hrate : 1 ≤ M ∧ M ≤ 300 := by omega
 have hxl : a < ports.length := by have := i2.pl; omega
 have hx : ports[a]? = some ports[a] := gq hxl
 have hxr := i2.prt a _ hx
 refine .bind' (.eq (A1 hx) ?_)
 dsimp only
 have j6t : Ok (Rk.J6 n (L_, At, rates, ports, c) ((a : Int), sa) (a, n.Ports[a]) (M, s) true)
   (Sum.elim (fun W => (SrcOk ⟨W.1, W.2.1⟩ ∧ PlInv n W.2.2.1 W.2.2.2.1 ∧ 0 ≤ W.2.2.2.2 ∧ W.2.2.2.2 < 5) ∧ W.2.2.2.2.toNat < c.toNat) fun d => SrcOk ⟨d.1, d.2.1⟩ ∧ PlInv n d.2.2.1 d.2.2.2) := by
  unfold Rk.J6
  exact j5 (_, _, _, _) Z.1 i2
 rw [Be (by omega)]
 refine A8 (fun _ => j6t) fun hx0 => ?_
 by_cases hbig : ports[a] + M > 1000
 ·simp only [hbig, decide_true]; exact j6t
 simp only [hbig, decide_false]
 unfold Rk.J6
 refine .bind (rO hn i2 hrate Z.1 hpo) ?_
 rintro ⟨L2, A2, way, e⟩ ⟨w1, w2⟩
 dsimp only at w1 w2
 unfold Rk.J7
 refine A8 (fun _ => j5 (_, _, _, _) w1 i2) fun he => ?_
 dsimp only at he
 obtain ⟨t, ⟨nd, n0, n1, n2⟩, kk, p, x, rfl, hka, hp, hpt, hxk, hx0', hxm⟩ := w2.resolve_left he
 have hkl := (gs hxk).1
 have hxkr := i2.prt kk _ hxk
 refine .bind' (.eq (A1 hx) (.bind' (.eq (A1 hxk) ?_)))
 dsimp only
 rw [Be (by omega)]
 have hset : (ports.set a (ports[a] + M))[kk]? = some x := by rw [List.getElem?_set_ne (Ne.symm hka)]; exact hxk
 refine .bind' (.eq (A1 hset) ?_)
 dsimp only
 rw [Be (by omega)]
 unfold Rk.J8
 refine .bind (mQ i2 hrate n2) fun W hst => ?_
 obtain ⟨s1, s2, s3⟩ := hst
 dsimp only at s1 s2 s3
 refine j5 (_, _, _, _) w1 ⟨by dsimp only; rw [s1]; exact i2.rl, by simp [i2.pl], s2, fun k y hk => ?_, fun v => ?_⟩
 ·dsimp only at hk
  rw [Fp] at hk
  split at hk
  ·simp at hk; omega
  ·rw [Fp] at hk
   split at hk
   ·simp at hk; omega
   ·exact i2.prt k y hk
 ·have w1 : (wp n v)[a]? = some (ind n.Ports[a].Node v) := by unfold wp; rw [List.getElem?_map, hpa]; rfl
  have w2 : (wp n v)[kk]? = some (ind p.Node v) := by unfold wp; rw [List.getElem?_map, hp]; rfl
  dsimp only
  rw [Xm w2 hset, Xm w1 hx, s3 v, n0, n1, hpt]
  have := i2.bal v
  have e1 : ind n.Ports[a].Node v * (ports[a] + M - ports[a]) = M * ind n.Ports[a].Node v := by rw [show ports[a] + M - ports[a] = M by omega, Int.mul_comm]
  have e2 : ind t v * (x - M - x) = -(M * ind t v) := by rw [show x - M - x = -M by omega, Int.mul_neg, Int.mul_comm]
  rw [e1, e2]
  omega
theorem pG {n : Nw} (hn : NetOk n) {s : V4} (Y : SrcOk s) : Ok (Rk s n) fun r => PlanOk n r.1 ∧ SrcOk r.2 := by
 have h1 := hn.segs1; have h2 := hn.ports1; have h3 := hn.sts1
 unfold Rk
 refine .bind' (.mk n.Segments.length rfl (by omega) (.bind' (.mk n.Ports.length rfl (by omega) ?_)))
 unfold Rk.J1
 refine .bind (Q := fun d : Li × Int × List Bool => SrcOk ⟨d.1, d.2.1⟩ ∧ d.2.2.length = n.Stations.length) ?_ ?_
 ·refine .loop (fun st : Li × Int × List Bool × Int => SrcOk ⟨st.1, st.2.1⟩ ∧ (st.2.2.1.length : Int) = st.2.2.2 ∧ st.2.2.1.length ≤ n.Stations.length) (fun st => n.Stations.length - st.2.2.1.length) ⟨Y, by simp, by simp⟩ (by dsimp only; omega) ?_
  rintro ⟨L_, At, pumps, i⟩ ⟨i1, i2, i3⟩
  dsimp only at i1 i2 i3
  unfold Rk.B20
  refine A8 (fun h0 => ?_) fun h0 => .pure ⟨i1, by dsimp only at h0 ⊢; omega⟩
  dsimp only at h0 ⊢
  refine .bind (E4 i1 (by decide) (by decide)) fun r M => .bind' (.app (by simp; omega) (.pure ?_))
  rw [Be (by omega)]
  exact ⟨⟨M.1, by simp; omega, by simp; omega⟩, by simp; omega⟩
 rintro ⟨L_, At, pumps⟩ ⟨i1, i2⟩
 dsimp only at i1 i2
 unfold Rk.J2
 refine .bind (E4 i1 (by decide) (by decide)) fun r51 h51 => .bind (E4 h51.1 (by decide) (by decide)) fun r1787 Z => ?_
 refine .bind (aX hn Z.1 Z.2 ⟨by simp, by simp, fun k r s M Y => ?_, fun k x hx => ?_, fun v => ?_⟩) ?_
 ·have := mg M
  simp at this
  have hc := (hn.segs k s Y).cap
  exact ⟨by omega, fun _ => by omega, fun _ => by omega⟩
 ·have := mg hx
  simp at this
  omega
 ·rw [Y8, Y8]; omega
 rintro ⟨L2, A2, rates, ports⟩ ⟨j1, W⟩
 dsimp only at j1 W
 have hr0 : ∀ (k : Nat) (r : Int), rates[k]? = some r → -1000000 ≤ r ∧ r ≤ 1000000 := fun k r M => by
  have hk := (gs M).1
  have Y : n.Segments[k]? = some _ := gq (by have := W.rl; omega)
  have := (W.rng k r _ M Y).rng
  omega
 unfold Rk.J3
 refine Dc (fun _ => ?_) fun _ => .pure ⟨⟨W.rl, W.pl, i2, fun k r s M Y => (W.rng k r s M Y).rng, W.prt, W.bal, .inl fun k r s M Y => ?_⟩, j1⟩
 ·refine .bind' (.eq (bC (by dsimp only; have := W.rl; omega) (by dsimp only; have := W.pl; omega) (by dsimp only; omega) hr0 fun k x hx => by have := W.prt k x hx; omega) (.pure ⟨⟨by simp [W.rl], by simp [W.pl], i2, fun k r s M Y => ?_, fun k x hx => ?_, fun v => ?_, .inr fun k r s M Y => ?_⟩, j1⟩))
  ·dsimp only at M
   rw [List.getElem?_map] at M
   obtain ⟨r', aa, rfl⟩ := Option.map_eq_some_iff.1 M
   have := (W.rng k r' s aa Y).rng
   omega
  ·dsimp only at hx
   rw [List.getElem?_map] at hx
   obtain ⟨r', aa, rfl⟩ := Option.map_eq_some_iff.1 hx
   have := W.prt k r' aa
   omega
  ·dsimp only
   rw [dH, dH]
   have := W.bal v
   omega
  ·dsimp only at M
   rw [List.getElem?_map] at M
   obtain ⟨r', aa, rfl⟩ := Option.map_eq_some_iff.1 M
   have h5 := W.rng k r' s aa Y
   have h6 := (hn.segs k s Y).ends
   have := h5.up; have := h5.down
   omega
 ·have h5 := W.rng k r s M Y
  have h6 := (hn.segs k s Y).ends
  have := h5.up; have := h5.down
  omega
def X2 {n : Nat} (a : Arr Int n) (v : Nat) : Int := a.l.getD v 0
theorem Xc {n : Nat} {a : Arr Int n} {i v : Nat} {x : Int} (hv : v < n) : X2 (a.set i x) v = if i = v then x else X2 a v := by
 unfold X2 Arr.set
 dsimp only
 rw [List.getD_eq_getElem?_getD, List.getD_eq_getElem?_getD, Fp]
 have := a.h
 by_cases h : i = v
 ·rw [if_pos ⟨h, by omega⟩, if_pos h]; rfl
 ·rw [if_neg (fun M => h M.1), if_neg h]
theorem Pw {n : Nat} {a : Arr Int n} {i : Nat} {x : Int} (h : a.l[i]? = some x) : X2 a i = x := by
 unfold X2; rw [List.getD_eq_getElem?_getD, h]; rfl
theorem Xd {n v : Nat} : X2 (Ck n (0 : Int)) v = 0 := by
 unfold X2 Ck
 dsimp only
 rw [List.getD_eq_getElem?_getD, List.getElem?_replicate]
 split <;> rfl
structure Strm (b : Int) (s : flow_streams) (f : Nat → Int) : Prop where
 come : ∀ v, v < 24 → 0 ≤ X2 s.come v ∧ X2 s.come v ≤ b
 leave : ∀ v, v < 24 → 0 ≤ X2 s.leave v ∧ X2 s.leave v ≤ b
 diff : ∀ v, v < 24 → X2 s.come v - X2 s.leave v = f v
theorem H5 (v : Int) : ind v v = 1 := if_pos rfl
theorem Gn {a v : Int} (h : a ≠ v) : ind a v = 0 := if_neg h
theorem lI {s : flow_streams} {b : Int} {f : Nat → Int} (h : Strm b s f) (hb : 0 ≤ b ∧ b ≤ 1000000) {M W rate : Int} (hf : M < 24) (ht : W < 24) (hft : -1 ≤ M ∧ -1 ≤ W)
  (hr : -1000 ≤ rate ∧ rate ≤ 1000) : Ok (Ns s M W rate) fun r => Strm (b + 1000) r fun v => f v + (ind W v - ind M v) * rate := by
 have main : ∀ (M W rate : Int), M < 24 → W < 24 → -1 ≤ M ∧ -1 ≤ W → 0 ≤ rate ∧ rate ≤ 1000 → Ok (Ns.J1 s (M, W, rate)) fun r => Strm (b + 1000) r fun v => f v + (ind W v - ind M v) * rate := by
  intro M W rate hf ht hft hr
  have j2 : ∀ (lv : Arr Int 24), (∀ v, v < 24 → 0 ≤ X2 lv v ∧ X2 lv v ≤ b + 1000 ∧ X2 lv v = X2 s.leave v + ind M v * rate) → Ok (Ns.J2 s (M, W, rate) lv) fun r => Strm (b + 1000) r fun v => f v + (ind W v - ind M v) * rate := by
   intro lv Z
   unfold Ns.J2
   refine A8 (fun h0 => ?_) fun h0 => .pure ?_
   ·dsimp only at h0
    obtain ⟨t, rfl⟩ := Et h0
    have hl := s.come.h
    refine .bind' (.ix t rfl (by omega) ?_)
    have hx : s.come.l[t]? = some s.come.l[t] := gq (by omega)
    have hvx := Pw hx
    have hcx := h.come t (by omega)
    dsimp only
    rw [Be (by omega)]
    refine .pure ⟨fun v Y => ?_, fun v Y => ⟨(Z v Y).1, (Z v Y).2.1⟩, fun v Y => ?_⟩
    ·have := h.come v Y
     dsimp only
     rw [Xc Y]; split <;> omega
    ·have h1 := h.diff v Y
     have h2 := (Z v Y).2.2
     dsimp only
     rw [Xc Y, h2, Int.sub_mul]
     by_cases htv : t = v
     ·subst htv; rw [if_pos rfl, H5]; omega
     ·rw [if_neg htv, Gn (a := (t : Int)) (by omega)]; omega
   ·dsimp only at h0
    refine ⟨fun v Y => ?_, fun v Y => ⟨(Z v Y).1, (Z v Y).2.1⟩, fun v Y => ?_⟩
    ·have := h.come v Y
     dsimp only; omega
    ·have h1 := h.diff v Y
     have h2 := (Z v Y).2.2
     dsimp only
     rw [h2, Int.sub_mul, Gn (a := W) (by omega)]; omega
  unfold Ns.J1
  refine A8 (fun h0 => ?_) fun h0 => ?_
  ·dsimp only at h0
   obtain ⟨t, rfl⟩ := Et h0
   have hl := s.leave.h
   refine .bind' (.ix t rfl (by omega) ?_)
   have hx : s.leave.l[t]? = some s.leave.l[t] := gq (by omega)
   have hvx := Pw hx
   have hcx := h.leave t (by omega)
   dsimp only
   rw [Be (by omega)]
   refine j2 _ fun v Y => ?_
   have := h.leave v Y
   rw [Xc Y]
   by_cases htv : t = v
   ·subst htv; rw [if_pos rfl, H5]; omega
   ·rw [if_neg htv, Gn (by omega)]; omega
  ·dsimp only at h0
   refine j2 _ fun v Y => ?_
   have := h.leave v Y
   rw [Gn (by omega)]; omega
 unfold Ns
 refine A8 (fun h0 => ?_) fun h0 => main _ _ _ hf ht hft (by omega)
 rw [Be (by omega)]
 refine (main W M (0 - rate) ht hf ⟨hft.2, hft.1⟩ (by omega)).mono fun r hr => ⟨hr.come, hr.leave, fun v Y => ?_⟩
 rw [hr.diff v Y]
 have : ∀ a b r : Int, (a - b) * (0 - r) = (b - a) * r := fun a b r => by rw [Int.zero_sub, Int.mul_neg, ← Int.neg_mul]; congr 1; omega
 rw [this]
def E2 (n : Nw) (p : Plan) (there : List Bool) (j : Nat) : Prop :=
 ∃ (i : Nat) (s : Sg) (r : Int) (f : Nat), n.Segments[i]? = some s ∧ p.Rates[i]? = some r ∧ r ≠ 0 ∧ (Bn s r).2 = (j : Int) ∧ (Bn s r).1 = (f : Int) ∧ there[f]? = some false
def Lh (n : Nw) (p : Plan) : Prop := ∀ there : List Bool, there.length = n.Nodes.length → (∀ j : Nat, there[j]? = some false → E2 n p there j) → ∀ k : Nat, there[k]? ≠ some false
structure FlowOk (n : Network) (p : Plan) : Prop where
 rl : p.Rates.length = n.Segments.length
 pl : p.Ports.length = n.Ports.length
 ml : p.Pumps.length = n.Stations.length
 rng : ∀ (k : Nat) (r : Int) (s : Sg), p.Rates[k]? = some r → n.Segments[k]? = some s → -1000 ≤ r ∧ r ≤ 1000 ∧ -s.Capacity ≤ r ∧ r ≤ s.Capacity
 prt : ∀ (k : Nat) (x : Int), p.Ports[k]? = some x → -1000 ≤ x ∧ x ≤ 1000
 bal : ∀ v : Nat, v < 24 → Gr (wt n v) p.Rates + Gr (wp n v) p.Ports = 0
 acyc : Lh n p
theorem lB {s : Sg} {r : Int} (W : r ≠ 0) : Bn s r = (s.To, s.From) ∧ r < 0 ∨ Bn s r = (s.From, s.To) ∧ 0 < r := by
 unfold Bn
 by_cases M : r < 0
 ·exact .inl ⟨by rw [if_pos (by simp [M])], M⟩
 ·exact .inr ⟨by rw [if_neg (by simp [M])], by omega⟩
theorem lN {n : Nw} (hn : NetC n) {p : Plan} (h4 : p.Rates.length = n.Segments.length) (h5 : p.Ports.length = n.Ports.length) (hrng : ∀ (k : Nat) (r : Int), p.Rates[k]? = some r → -1000 ≤ r ∧ r ≤ 1000) (hprt : ∀ (k : Nat) (x : Int), p.Ports[k]? = some x → -1000 ≤ x ∧ x ≤ 1000) :
  Ok (Qq n p) fun r => Strm 60000 r fun v => Gr (wt n v) p.Rates + Gr (wp n v) p.Ports := by
 have h1 := hn.nodes; have h2 := hn.segs1; have h3 := hn.ports1
 unfold Qq
 refine .bind (.forS (fun k Z => Strm (1000 * k) ⟨Z.1, Z.2⟩ fun v => Gr (wt n v) (p.Rates.take k)) ⟨fun v M => ?_, fun v M => ?_, fun v M => ?_⟩ ?_ fun Z h => h) ?_
 ·dsimp only; rw [Xd]; omega
 ·dsimp only; rw [Xd]; omega
 ·dsimp only; rw [Xd]; simp [Kk]
 ·intro k s Z hs Y
  have hkl := (gs hs).1
  have hr : p.Rates[k]? = some p.Rates[k] := gq (by omega)
  have hrr := hrng k _ hr
  have he := (hn.segs k s hs).1
  unfold Qq.B4
  refine .bind' (.ix k rfl (by omega) (.bind (lI Y (by omega) (by omega) (by omega) (by omega) (by dsimp only; omega)) fun r W => .pure ?_))
  refine ⟨fun v M => ?_, fun v M => ?_, fun v M => ?_⟩
  ·have := W.come v M; dsimp only; omega
  ·have := W.leave v M; dsimp only; omega
  ·have := W.diff v M
   dsimp only at this ⊢
   rw [this, Gc (w := wt n v) (a := ind s.To v - ind s.From v) (by unfold wt; rw [List.getElem?_map, hs]; rfl) hr]
 ·intro Z Y
  rw [List.take_of_length_le (by omega)] at Y
  unfold Qq.J1
  refine .bind (.forS (fun k Z => Strm (32000 + 1000 * k) ⟨Z.1, Z.2⟩ fun v => Gr (wt n v) p.Rates + Gr (wp n v) (p.Ports.take k)) ⟨fun v M => ?_, fun v M => ?_, fun v M => ?_⟩ ?_ fun Z h => h) ?_
  ·have := Y.come v M; dsimp only at this ⊢; omega
  ·have := Y.leave v M; dsimp only at this ⊢; omega
  ·have := Y.diff v M; dsimp only at this ⊢; rw [this]; simp [Kk]
  ·intro k s Z hs Y
   have hkl := (gs hs).1
   have hr : p.Ports[k]? = some p.Ports[k] := gq (by omega)
   have hrr := hprt k _ hr
   have he := (hn.ports k s hs)
   unfold Qq.B3
   refine .bind' (.ix k rfl (by omega) (.bind (lI Y (by omega) (by omega) (by omega) (by omega) (by dsimp only; omega)) fun r W => .pure ?_))
   refine ⟨fun v M => ?_, fun v M => ?_, fun v M => ?_⟩
   ·have := W.come v M; dsimp only; omega
   ·have := W.leave v M; dsimp only; omega
   ·have := W.diff v M
    dsimp only at this ⊢
    rw [this, Gc (w := wp n v) (a := ind s.Node v) (by unfold wp; rw [List.getElem?_map, hs]; rfl) hr, Gn (a := -1) (by omega), Int.sub_zero]; omega
  ·intro Z Y
   rw [List.take_of_length_le (by omega)] at Y
   unfold Qq.J2
   refine .pure ⟨fun v M => ?_, fun v M => ?_, fun v M => ?_⟩
   ·have := Y.come v M; dsimp only at this ⊢; omega
   ·have := Y.leave v M; dsimp only at this ⊢; omega
   ·exact Y.diff v M
def cnt : List Bool → Nat
 | [] => 0
 | b :: l => (if b = true then 1 else 0) + cnt l
theorem Qm : ∀ l : List Bool, cnt l ≤ l.length
 | [] => Nat.le_refl _
 | b :: l => by have := Qm l; cases b <;> simp [cnt] <;> omega
theorem pU (n : Nat) : cnt (List.replicate n false) = 0 := by induction n with | zero => rfl | succ n ih => simp [List.replicate_succ, cnt, ih]
theorem Xn : ∀ {l : List Bool} {k : Nat}, l[k]? = some false → cnt (l.set k true) = cnt l + 1
 | [], k, h => by simp at h
 | b :: l, 0, h => by simp at h; subst h; simp [cnt]; omega
 | b :: l, k + 1, h => by simp at h; simp [cnt, Xn h]; omega
structure Flw (n : Network) (p : Plan) (i : Nat) (s : Segment) (r : Int) : Prop where
 seg : n.Segments[i]? = some s
 rate : p.Rates[i]? = some r
 ne : r ≠ 0
structure Topo (n : Network) (p : Plan) (l : List Int) : Prop where
 rng : ∀ v, v ∈ l → 0 ≤ v ∧ v < (n.Nodes.length : Int)
 nodup : l.Nodup
 topo : ∀ (k : Nat) (v : Int), l[k]? = some v → ∀ i s r, Flw n p i s r → (Bn s r).2 = v → (Bn s r).1 ∈ l.take k
 least : ∀ (k : Nat) (v : Int), l[k]? = some v → ∀ j : Nat, (j : Int) < v → (j : Int) ∉ l.take k → ∃ i s r, Flw n p i s r ∧ (Bn s r).2 = (j : Int) ∧ (Bn s r).1 ∉ l.take k
structure There (n : Network) (p : Plan) (out : List Int) (there : List Bool) : Prop where
 len : there.length = n.Nodes.length
 topo : Topo n p out
 mem : ∀ v : Nat, there[v]? = some true ↔ (v : Int) ∈ out
theorem There.nil (n : Nw) (p : Plan) : There n p [] (List.replicate n.Nodes.length false) :=
 ⟨by simp, ⟨by simp, by simp, by simp, by simp⟩, fun v => by simp [List.getElem?_replicate]⟩
theorem There.short {n : Nw} {p : Plan} {out : Li} {there : List Bool} (h : There n p out there) : out.length ≤ n.Nodes.length := by
 have := h.topo.nodup.length_le_of_subset (l₂ := (List.range n.Nodes.length).map fun v : Nat => (v : Int)) fun v M => by
  have := h.topo.rng v M
  exact List.mem_map.2 ⟨v.toNat, List.mem_range.2 (by omega), by omega⟩
 simpa using this
theorem There.step {n : Nw} {p : Plan} {out : Li} {there : List Bool} (h : There n p out there) {k : Nat} (hk : there[k]? = some false) (hr : ∀ i s r, Flw n p i s r → (Bn s r).2 = (k : Int) → (Bn s r).1 ∈ out)
  (hl : ∀ j : Nat, j < k → there[j]? = some false → E2 n p there j) : There n p (out ++ [(k : Int)]) (there.set k true) := by
 have hkl := (gs hk).1
 have h1 := h.len
 have aa : (k : Int) ∉ out := fun M => by have := (h.mem k).2 M; rw [hk] at this; cases this
 have ab : ∀ {m : Nat} {v : Int}, (out ++ [(k : Int)])[m]? = some v → (out[m]? = some v ∧ (out ++ [(k : Int)]).take m = out.take m) ∨ (v = (k : Int) ∧ (out ++ [(k : Int)]).take m = out) := fun {m v} M => by
  rw [List.getElem?_append] at M
  split at M
  ·rename_i ac
   exact .inl ⟨M, List.take_append_of_le_length (by omega)⟩
  ·rename_i ac
   have hl := (gs M).1
   simp at hl
   have : m = out.length := by omega
   subst this
   simp at M
   exact .inr ⟨M.symm, List.take_left⟩
 refine ⟨by simp [h1], ⟨fun v W => ?_, ?_, fun m v M i s r hf ht => ?_, fun m v M j hj hn => ?_⟩, fun v => ?_⟩
 ·rcases List.mem_append.1 W with W | W
  ·exact h.topo.rng v W
  ·simp at W; omega
 ·exact List.nodup_append.2 ⟨h.topo.nodup, by simp, fun a ha b Y he => by simp at Y; subst Y; subst he; exact aa ha⟩
 ·rcases ab M with ⟨M, e⟩ | ⟨rfl, e⟩ <;> rw [e]
  ·exact h.topo.topo m v M i s r hf ht
  ·exact hr i s r hf ht
 ·rcases ab M with ⟨M, e⟩ | ⟨rfl, e⟩ <;> rw [e] at hn ⊢
  ·exact h.topo.least m v M j hj hn
  ·have Z : there[j]? = some there[j] := gq (by omega)
   cases Y : there[j] with
   | true => exact absurd ((h.mem j).1 (by rw [Z, Y])) hn
   | false =>
    obtain ⟨i, s, r, f, e1, e2, e3, e4, e5, e6⟩ := hl j (by omega) (by rw [Z, Y])
    exact ⟨i, s, r, ⟨e1, e2, e3⟩, e4, fun M => by rw [e5] at M; have := (h.mem f).2 M; rw [e6] at this; cases this⟩
 ·by_cases W : v = k
  ·subst W
   rw [List.getElem?_set_self (by omega)]; simp
  ·rw [List.getElem?_set_ne (by omega), h.mem v]
   simp; omega
theorem There.fin {n : Nw} {p : Plan} {out : Li} {there : List Bool} (h : There n p out there) (hb : ∀ j : Nat, there[j]? = some false → E2 n p there j) :
  (∀ v : Nat, v < n.Nodes.length → (v : Int) ∈ out) ∨ ((∃ v : Nat, v < n.Nodes.length ∧ (v : Int) ∉ out) ∧ ¬ Lh n p) := by
 have h1 := h.len
 by_cases M : ∀ k : Nat, there[k]? ≠ some false
 ·refine .inl fun v W => (h.mem v).1 ?_
  have Z : there[v]? = some there[v] := gq (by omega)
  cases hb : there[v] with
  | true => rw [Z, hb]
  | false => exact absurd (by rw [Z, hb]) (M v)
 ·refine .inr ⟨?_, fun Y => M (Y there h.len hb)⟩
  obtain ⟨v, W⟩ := Classical.not_forall.1 M
  have W := Classical.not_not.1 W
  refine ⟨v, by have := (gs W).1; omega, fun hm => ?_⟩
  have := (h.mem v).2 hm
  rw [W] at this; cases this
theorem He {n : Nw} (hn : NetC n) {p : Plan} (h4 : p.Rates.length = n.Segments.length) : Ok (Hm n p) fun r => Topo n p r ∧ ((∀ v : Nat, v < n.Nodes.length → (v : Int) ∈ r) ∨ ((∃ v : Nat, v < n.Nodes.length ∧ (v : Int) ∉ r) ∧ ¬ Lh n p)) := by
 have h1 := hn.nodes; have h2 := hn.segs1
 let I : Li × List Bool × Int → Prop := fun st => There n p st.1 st.2.1 ∧ 0 ≤ st.2.2 ∧ st.2.2 ≤ (n.Nodes.length : Int) ∧ ∀ j : Nat, (j : Int) < st.2.2 → st.2.1[j]? = some false → E2 n p st.2.1 j
 let R : Li → Prop := fun r => Topo n p r ∧ ((∀ v : Nat, v < n.Nodes.length → (v : Int) ∈ r) ∨ ((∃ v : Nat, v < n.Nodes.length ∧ (v : Int) ∉ r) ∧ ¬ Lh n p))
 let μ : Li × List Bool × Int → Nat := fun st => (n.Nodes.length - cnt st.2.1) * 100 + (n.Nodes.length - st.2.2.toNat)
 unfold Hm
 refine .bind' (.mk n.Nodes.length rfl (by omega) ?_)
 refine .bind (Q := R) ?_ fun r hr => .pure hr
 refine .loop I μ ⟨.nil n p, by simp, by simp, fun j hj => by dsimp only at hj; omega⟩ (by simp only [μ]; rw [pU]; omega) ?_
 rintro ⟨Y, M, k⟩ ⟨iT, i3, i4, i5⟩
 dsimp only at iT i3 i4 i5
 have i1 := iT.len
 have hc := Qm M
 unfold Hm.B2
 refine A8 (fun h0 => ?_) fun h0 => ?_
 ·dsimp only at h0
  obtain ⟨W, rfl⟩ := Et i3
  have hkl : W < M.length := by omega
  have hx : M[W]? = some M[W] := gq hkl
  have next : E2 n p M W ∨ M[W] = true → Ok (Hm.J3 (Y, M, (W : Int))) (Sum.elim (fun st => I st ∧ μ st < μ (Y, M, (W : Int))) R) := by
   intro hb
   unfold Hm.J3
   dsimp only
   rw [Be (by omega)]
   refine .pure ⟨⟨iT, by dsimp only; omega, by dsimp only; omega, fun j hj Z => ?_⟩, by simp only [μ]; omega⟩
   dsimp only at hj Z
   by_cases hjk : j = W
   ·subst hjk
    rcases hb with hb | hb
    ·exact hb
    ·rw [hx, hb] at Z; cases Z
   ·exact i5 j (by omega) Z
  refine .bind' (.eq (A1 hx) (Bo (fun ht => next (.inr ht)) fun ht => ?_))
  dsimp only at ht
  refine .bind' (.forL (fun i _ => ∀ (j : Nat) (s : Sg) (r : Int), j < i → Flw n p j s r → (Bn s r).2 = (W : Int) → (Bn s r).1 ∈ Y) (fun d => d = (Y, M, (W : Int)) ∧ E2 n p M W) (fun j s r hj => absurd hj (Nat.not_lt_zero _)) ?_ ?_ ?_)
  ·intro i s _ hs hJ
   have hil := (gs hs).1
   have hr : p.Rates[i]? = some p.Rates[i] := gq (by omega)
   have he := (hn.segs i s hs).1
   have no : (p.Rates[i] ≠ 0 → (Bn s p.Rates[i]).2 = (W : Int) → (Bn s p.Rates[i]).1 ∈ Y) → Ok (Hm.J6 (Y, M, (W : Int)) false) (Sum.elim (fun _ : Unit => ∀ (j : Nat) (s : Sg) (r : Int), j < i + 1 → Flw n p j s r → (Bn s r).2 = (W : Int) → (Bn s r).1 ∈ Y) fun d => d = (Y, M, (W : Int)) ∧ E2 n p M W) := by
    intro hq
    unfold Hm.J6
    refine .pure fun j s' r' hj Z ht => ?_
    by_cases hji : j = i
    ·subst hji
     have e1 := Z.seg; have e2 := Z.rate
     rw [hs] at e1; cases e1
     rw [hr] at e2; cases e2
     exact hq Z.ne ht
    ·exact hJ j s' r' (by omega) Z ht
   unfold Hm.B5
   refine .bind' (.eq (A1 hr) (Ec (fun hr0 => Dc (fun aa => ?_) fun aa => no fun _ h => absurd h aa) fun hr0 => no fun h => absurd hr0 h))
   dsimp only at hr0 aa ⊢
   have hfr : 0 ≤ (Bn s p.Rates[i]).1 ∧ (Bn s p.Rates[i]).1 < (n.Nodes.length : Int) := by
    unfold Bn
    split <;> dsimp only <;> omega
   refine .bind' (.ix' hfr.1 (by omega) fun f x Z hfx => ?_)
   dsimp only
   cases x with
   | false =>
    unfold Hm.J6
    exact .pure ⟨rfl, i, s, p.Rates[i], f, hs, hr, hr0, aa, Z, hfx⟩
   | true => exact no fun _ _ => by rw [Z]; exact (iT.mem f).1 hfx
  ·intro _ hJ
   simp only [Sum.elim_inl]
   unfold Hm.J4
   refine .bind' (.app (by have := iT.short; simp; omega) ?_)
   unfold Hm.J3
   dsimp only
   rw [Be (by omega)]
   have hx' : M[W]? = some false := by rw [hx, ht]
   have hcs := Xn hx'
   have hcl := Qm (M.set W true)
   simp at hcl
   refine .pure ⟨⟨iT.step hx' (fun i s r Z aa => hJ i s r (gs Z.seg).1 Z aa) fun j hj => i5 j (by omega), by simp, by dsimp only; omega, fun j hj => by dsimp only at hj; omega⟩, ?_⟩
   simp only [μ]
   rw [hcs]; omega
  ·rintro _ ⟨rfl, hb⟩
   exact next (.inl hb)
 ·dsimp only at h0
  have hk : k = (n.Nodes.length : Int) := by omega
  subst hk
  have T4 : ∀ j : Nat, M[j]? = some false → E2 n p M j := fun j hj => i5 j (by have := (gs hj).1; omega) hj
  exact .pure ⟨iT.topo, iT.fin T4⟩
theorem My {l : Li} {m : Nat} (M : ∀ v, v ∈ l → 0 ≤ v ∧ v < (m : Int)) (Z : l.Nodup) (W : ∀ v : Nat, v < m → (v : Int) ∈ l) : l.length = m := by
 have hp : l.Perm ((List.range m).map fun k : Nat => (k : Int)) := (List.perm_ext_iff_of_nodup Z (List.Pairwise.map _ (fun a b h he => h (by omega)) List.nodup_range)).2 fun v => by
  simp only [List.mem_map, List.mem_range]
  refine ⟨fun h => ⟨v.toNat, by have := M v h; omega, by have := M v h; omega⟩, ?_⟩
  rintro ⟨k, Y, rfl⟩
  exact W k Y
 simpa using hp.length_eq
theorem L4 : ∀ {w l : Li}, (∀ x, x ∈ w → x = 0) → Gr w l = 0
 | [], _, _ => rfl
 | _ :: _, [], _ => rfl
 | a :: w, x :: l, h => by simp only [Gr]; rw [h a (by simp), L4 fun y M => h y (by simp [M])]; omega
theorem Xw {n : Nw} {p : Plan} (M : Nat → Nat) (h : ∀ (i : Nat) (s : Sg) (r : Int) (f t : Nat), n.Segments[i]? = some s → p.Rates[i]? = some r → r ≠ 0 → (Bn s r).1 = (f : Int) → (Bn s r).2 = (t : Int) → t < n.Nodes.length → M f < M t) : Lh n p := by
 intro W hl hb
 have : ∀ m k : Nat, M k = m → W[k]? ≠ some false := by
  intro m
  induction m using Nat.strongRecOn with
  | ind m ih =>
   intro k hm hk
   have hkl := (gs hk).1
   obtain ⟨i, s, r, f, hs, hr, Z, aa, Y, hf⟩ := hb k hk
   exact ih (M f) (by have := h i s r f k hs hr Z Y aa (by omega); omega) f rfl hf
 exact fun k => this _ k rfl
theorem Topo.acyc {n : Nw} {p : Plan} {l : Li} (h : Topo n p l) (ha : ∀ v : Nat, v < n.Nodes.length → (v : Int) ∈ l) : Lh n p := by
 refine Xw (fun v => l.idxOf (v : Int)) fun i s r f t hs hr W hf ht Y => ?_
 have hm := ha t Y
 have Z := List.idxOf_lt_length_of_mem hm
 have hk : l[l.idxOf (t : Int)]? = some (t : Int) := by rw [gq Z, List.getElem_idxOf Z]
 have := h.topo _ _ hk i s r ⟨hs, hr, W⟩ ht
 rw [hf] at this
 obtain ⟨j, hj, he⟩ := List.mem_take_iff_getElem.1 this
 have M : j < l.length := by omega
 have h2 : l.idxOf (f : Int) ≤ j := by
  rw [← he]
  have := h.nodup.idxOf_getElem j M
  omega
 omega
theorem Yz {l : Li} {m : Nat} (Y : ∀ v, v ∈ l → 0 ≤ v ∧ v < (m : Int)) (W : l.Nodup) {v : Nat} (hv : v < m) (h : (v : Int) ∉ l) : l.length < m := by
 have := (List.nodup_cons.2 ⟨h, W⟩).length_le_of_subset (l₂ := (List.range m).map fun v : Nat => (v : Int)) fun x M => by
  rcases List.mem_cons.1 M with rfl | M
  ·exact List.mem_map.2 ⟨v, List.mem_range.2 hv, rfl⟩
  ·have := Y x M
   exact List.mem_map.2 ⟨x.toNat, List.mem_range.2 (by omega), by omega⟩
 simp at this; omega
theorem Topo.uniq {n : Nw} {p : Plan} {l l' : Li} (h : Topo n p l) (h' : Topo n p l') (e : l.length = l'.length) : l = l' := by
 have W : ∀ {l l' : Li} {k : Nat} {v v' : Int}, Topo n p l → Topo n p l' → l.take k = l'.take k → l[k]? = some v → l'[k]? = some v' → ¬ v < v' := fun {l l' k v v'} h h' hk Y M hlt => by
  have hr := h.rng v (mg Y)
  obtain ⟨j, rfl⟩ := Et hr.1
  have hm : (j : Int) ∉ l.take k := fun hm => by
   obtain ⟨i, hi, he⟩ := List.mem_take_iff_getElem.1 hm
   have hkl := (gs Y).1
   have := (List.getElem_inj h.nodup (i := i) (j := k) (h₀ := by omega) (h₁ := hkl)).1 (by rw [he]; exact (gs Y).2.symm)
   omega
  obtain ⟨i, s, r, hf, h1, h2⟩ := h'.least k v' M j hlt (by rw [← hk]; exact hm)
  rw [← hk] at h2
  exact h2 (h.topo k j Y i s r hf h1)
 have : ∀ k, k ≤ l.length → l.take k = l'.take k := fun k => by
  induction k with
  | zero => intro _; simp
  | succ k Z =>
   intro hk
   have Z := Z (by omega)
   have Y : l[k]? = some l[k] := gq (by omega)
   have M : l'[k]? = some l'[k] := gq (by omega)
   have := W h h' Z Y M
   have := W h' h Z.symm M Y
   rw [List.take_add_one, List.take_add_one, Z, Y, M, show l[k] = l'[k] by omega]
 have := this l.length (by omega)
 rw [List.take_length] at this
 rw [this, e, List.take_length]
theorem aZ {n : Nw} (hn : NetC n) {p : Plan} (Y : p.Rates.length = n.Segments.length) : Ok (Hm n p) fun r => (r.length : Int) < (n.Nodes.length : Int) ↔ ¬ Lh n p := by
 refine (He hn Y).mono fun r ⟨W, M⟩ => ?_
 rcases M with M | ⟨⟨v, hv, Z⟩, M⟩
 ·have := My W.rng W.nodup M
  exact ⟨fun h => by omega, fun h => absurd (W.acyc M) h⟩
 ·have := Yz W.rng W.nodup hv Z
  exact ⟨fun _ => M, fun _ => by omega⟩
def Z7 (n : Nw) (p : Plan) : Prop := p.Rates.length = n.Segments.length ∧ p.Ports.length = n.Ports.length ∧ p.Pumps.length = n.Stations.length
def Qe (s : Sg) (r : Int) : Prop := -1000 ≤ r ∧ r ≤ 1000 ∧ -s.Capacity ≤ r ∧ r ≤ s.Capacity
def Rng (n : Nw) (p : Plan) : Prop := ∀ (k : Nat) (r : Int) (s : Sg), p.Rates[k]? = some r → n.Segments[k]? = some s → Qe s r
def tN (p : Plan) : Prop := ∀ (k : Nat) (x : Int), p.Ports[k]? = some x → -1000 ≤ x ∧ x ≤ 1000
def Bal (n : Nw) (p : Plan) : Prop := ∀ v : Nat, v < n.Nodes.length → Gr (wt n v) p.Rates + Gr (wp n v) p.Ports = 0
def FlowRes (n : Nw) (p : Plan) (r : Int) : Prop := (¬ Z7 n p ∧ r = 9) ∨ (Z7 n p ∧ ((¬ Rng n p ∧ r = 1) ∨ (Rng n p ∧ ((¬ tN p ∧ r = 1) ∨ (tN p ∧ ((¬ Bal n p ∧ r = 12) ∨ (Bal n p ∧ ((¬ Lh n p ∧ r = 13) ∨ (Lh n p ∧ r = 0)))))))))
theorem FlowRes.uniq {n : Nw} {p : Plan} {r r' : Int} (h : FlowRes n p r) (h' : FlowRes n p r') : r = r' := by
 rcases h with ⟨a, rfl⟩ | ⟨a, ⟨b, rfl⟩ | ⟨b, ⟨c, rfl⟩ | ⟨c, ⟨d, rfl⟩ | ⟨d, ⟨e, rfl⟩ | ⟨e, rfl⟩⟩⟩⟩⟩ <;>
  rcases h' with ⟨M, rfl⟩ | ⟨M, ⟨W, rfl⟩ | ⟨W, ⟨Y, rfl⟩ | ⟨Y, ⟨Z, rfl⟩ | ⟨Z, ⟨e', rfl⟩ | ⟨e', rfl⟩⟩⟩⟩⟩ <;> first | rfl | contradiction
theorem Bal.all {n : Nw} (hn : NetC n) {p : Plan} (h : Bal n p) (v : Nat) : Gr (wt n v) p.Rates + Gr (wp n v) p.Ports = 0 := by
 by_cases Y : v < n.Nodes.length
 ·exact h v Y
 ·rw [L4, L4]; rfl
  ·intro x Z
   obtain ⟨k, M⟩ := List.getElem?_of_mem Z
   unfold wp at M
   rw [List.getElem?_map] at M
   obtain ⟨s, W, rfl⟩ := Option.map_eq_some_iff.1 M
   have := hn.ports k s W
   exact Gn (by omega)
  ·intro x Z
   obtain ⟨k, M⟩ := List.getElem?_of_mem Z
   unfold wt at M
   rw [List.getElem?_map] at M
   obtain ⟨s, W, rfl⟩ := Option.map_eq_some_iff.1 M
   have := (hn.segs k s W).1
   rw [Gn (a := s.To) (by omega), Gn (a := s.From) (by omega)]; rfl
theorem FlowRes.flow {n : Nw} (M : NetC n) {p : Plan} (h : FlowRes n p 0) : FlowOk n p := by
 rcases h with ⟨_, h⟩ | ⟨a, ⟨_, h⟩ | ⟨b, ⟨_, h⟩ | ⟨c, ⟨_, h⟩ | ⟨d, ⟨_, h⟩ | ⟨e, _⟩⟩⟩⟩⟩
 ·cases h
 ·cases h
 ·cases h
 ·cases h
 ·cases h
 ·exact ⟨a.1, a.2.1, a.2.2, b, c, fun v _ => d.all M v, e⟩
theorem FlowOk.res {n : Nw} (M : NetC n) {p : Plan} (h : FlowOk n p) : FlowRes n p 0 :=
 .inr ⟨⟨h.rl, h.pl, h.ml⟩, .inr ⟨h.rng, .inr ⟨h.prt, .inr ⟨fun v W => h.bal v (by have := M.nodes; omega), .inr ⟨h.acyc, rfl⟩⟩⟩⟩⟩
theorem Rng.all {n : Nw} {p : Plan} (hl : Z7 n p) (h : Rng n p) (k : Nat) (r : Int) (M : p.Rates[k]? = some r) : -1000 ≤ r ∧ r ≤ 1000 := by
 have W := (gs M).1
 have Y : n.Segments[k]? = some (n.Segments[k]'(by have := hl.1; omega)) := gq _
 have := h k r _ M Y
 exact ⟨this.1, this.2.1⟩
theorem S9 {r m : Int} (M : 0 ≤ m ∧ m ≤ 1000000) : Nv r m = true ↔ -m ≤ r ∧ r ≤ m := by
 unfold Nv
 rw [Be (by omega)]
 simp
theorem dF {n : Nw} (hn : NetC n) {p : Plan} : Ok (Lt n p) (FlowRes n p) := by
 have h1 := hn.nodes; have h2 := hn.segs1; have h3 := hn.ports1
 unfold Lt
 refine .bind' (.eq hn.check (Ec (fun h => absurd rfl h) fun _ => Cw (Q := ¬ Z7 n p) (by unfold Z7; simp; omega) (fun h => .pure (.inl ⟨h, rfl⟩)) fun Z => ?_))
 have Z := Classical.not_not.1 Z
 have l1 := Z.1; have l2 := Z.2.1
 have hrk : ∀ (k : Nat) (s : Sg), n.Segments[k]? = some s → ∃ r, p.Rates[k]? = some r := fun k s hs => ⟨_, gq (by have := (gs hs).1; omega)⟩
 refine .bind (uX (d := 1) (P := fun k s => ∃ r, p.Rates[k]? = some r ∧ ¬ Qe s r) fun k s hs => ?_) ?_
 ·obtain ⟨r, M⟩ := hrk k s hs
  have hc := (hn.segs k s hs).2
  unfold Lt.B2
  refine .bind' (.eq (A1 M) (.test ?_))
  rw [Bool.not_eq_true', ← Bool.not_eq_true, S9 (by omega)]
  refine ⟨fun h => ⟨r, M, fun W => h (by unfold Qe at W; dsimp only; omega)⟩, fun ⟨r', hr', h⟩ W => ?_⟩
  rw [M] at hr'; cases hr'
  exact h (by unfold Qe; dsimp only at W; omega)
 rintro _ (⟨⟨k, s, hs, r, M, h⟩, rfl⟩ | ⟨h, rfl⟩)
 ·exact .pure (.inr ⟨Z, .inl ⟨fun W => h (W k r s M hs), rfl⟩⟩)
 have W : Rng n p := fun k r s M hs => Classical.not_not.1 fun hn => h k s hs ⟨r, M, hn⟩
 simp only [Sum.elim_inl]
 unfold Lt.J1
 refine .bind' (.eq (Ef (P := fun x => N1 x) fun _ _ _ => rfl) (Cw (Iw (Q := fun x => ¬ (-1000 ≤ x ∧ x ≤ 1000)) fun k x _ => ?_) (fun ⟨k, x, hx, Y⟩ => .pure (.inr ⟨Z, .inr ⟨W, .inl ⟨fun hp => Y (hp k x hx), rfl⟩⟩⟩)) fun hp => ?_))
 ·unfold N1
  rw [Bool.not_eq_true', ← Bool.not_eq_true, S9 (by omega)]
 have hp : tN p := fun k x hx => Classical.not_not.1 fun Y => hp ⟨k, x, hx, Y⟩
 refine .bind (lN hn l1 l2 (W.all Z) hp) fun r M => ?_
 have he : r.come = r.leave ↔ Bal n p := by
  refine ⟨fun he v hv => ?_, fun Y => Arr.ext' (List.ext_getElem (by rw [r.come.h, r.leave.h]) fun i a b => ?_)⟩
  ·have := M.diff v (by omega)
   rw [he] at this
   omega
  ·have := M.diff i (by rw [← r.come.h]; exact a)
   rw [Pw (gq a), Pw (gq b)] at this
   have := Y.all hn i
   omega
 refine Cw (Q := ¬ Bal n p) (by rw [← he]; simp) (fun h => .pure (.inr ⟨Z, .inr ⟨W, .inr ⟨hp, .inl ⟨h, rfl⟩⟩⟩⟩)) fun Y => ?_
 have Y := Classical.not_not.1 Y
 refine .bind (aZ hn l1) fun r M => Cw (Q := ¬ Lh n p) (by rw [← M]; simp) (fun h => .pure (.inr ⟨Z, .inr ⟨W, .inr ⟨hp, .inr ⟨Y, .inl ⟨h, rfl⟩⟩⟩⟩⟩)) fun ha => ?_
 exact .pure (.inr ⟨Z, .inr ⟨W, .inr ⟨hp, .inr ⟨Y, .inr ⟨Classical.not_not.1 ha, rfl⟩⟩⟩⟩⟩)
theorem Tg {n : Nw} (M : NetC n) {p : Plan} (h : FlowOk n p) : Lt n p = some 0 := by
 obtain ⟨r, W, Y⟩ := dF M (p := p)
 rw [W, Y.uniq (h.res M)]
def Do : Nat → (Nat → Int) → Int
 | 0, _ => 0
 | n + 1, f => Do n f + f n
theorem Ff {f g : Nat → Int} : ∀ {n : Nat}, (∀ i, i < n → f i = g i) → Do n f = Do n g
 | 0, _ => rfl
 | n + 1, h => by simp only [Do]; rw [Ff fun i M => h i (by omega), h n (by omega)]
theorem Yh {f g : Nat → Int} {k : Nat} (h : ∀ i, i ≠ k → g i = f i) : ∀ {n : Nat}, k < n → Do n g = Do n f + (g k - f k)
 | 0, hk => absurd hk (by omega)
 | n + 1, hk => by
  simp only [Do]
  by_cases e : k = n
  ·subst e; rw [Ff (f := g) (g := f) fun i M => h i (by omega)]; omega
  ·rw [Yh h (by omega : k < n), h n (by omega)]; omega
theorem Mf {f g : Nat → Int} : ∀ {n : Nat}, (∀ i, i < n → f i ≤ g i) → Do n f ≤ Do n g
 | 0, _ => Int.le_refl _
 | n + 1, h => by have := Mf (n := n) fun i M => h i (by omega); have := h n (by omega); simp only [Do]; omega
theorem cR {f g : Nat → Int} : ∀ {n : Nat}, (∀ i, i < n → f i ≤ g i) → Do n f = Do n g → ∀ i, i < n → f i = g i
 | 0, _, _, i, M => absurd M (by omega)
 | n + 1, h, e, i, M => by
  have Y := Mf (n := n) fun i M => h i (by omega)
  have Z := h n (by omega)
  simp only [Do] at e
  by_cases W : i = n
  ·subst W; omega
  ·exact cR (n := n) (fun i M => h i (by omega)) (by omega) i (by omega)
theorem eD {f : Nat → Int} {n : Nat} (h : ∀ i, i < n → f i = 0) : Do n f = 0 := by
 induction n with
 | zero => rfl
 | succ n ih => simp only [Do]; rw [ih fun i M => h i (by omega), h n (by omega)]; rfl
theorem Sh (f g : Nat → Int) : ∀ n, Do n (fun i => f i + g i) = Do n f + Do n g
 | 0 => rfl
 | n + 1 => by simp only [Do]; rw [Sh f g n]; omega
theorem Kl (l : Li) : l.sum = Do l.length fun i => l.getD i 0 := by
 induction l using Mo with
 | h0 => rfl
 | h1 a x ih =>
  rw [List.sum_append, List.length_append, List.length_singleton]
  simp only [Do]
  rw [ih, Ff (n := a.length) (f := fun i => (a ++ [x]).getD i 0) (g := fun i => a.getD i 0) fun i M => by
   rw [List.getD_eq_getElem?_getD, List.getD_eq_getElem?_getD, List.getElem?_append_left M]]
  congr 1
  simp
theorem Tc (f : Nat → Int) : ∀ n, Do (n + 1) f = f 0 + Do n fun i => f (i + 1)
 | 0 => by simp [Do]
 | n + 1 => by rw [Do, Tc f n]; simp only [Do]; omega
def Hu (i : Nat) : List Nat → Li → Li
 | c :: cs, x :: xs => if c = i then x :: Hu i cs xs else Hu i cs xs
 | _, _ => []
theorem Xf (i : Nat) : ∀ (c d : List Nat) (X Y : Li), c.length = X.length → Hu i (c ++ d) (X ++ Y) = Hu i c X ++ Hu i d Y
 | [], d, [], Y, _ => by simp [Hu]
 | [], _, _ :: _, _, h => by simp at h
 | _ :: _, _, [], _, h => by simp at h
 | c :: cs, d, x :: xs, Y, h => by
  simp only [List.cons_append, Hu]
  rw [Xf i cs d xs Y (by simpa using h)]
  split <;> simp
theorem Xe (i : Nat) (b : Int) : ∀ (d : List Nat), Hu i d (List.replicate d.length b) = List.replicate (d.count i) b
 | [] => rfl
 | c :: cs => by
  rw [List.length_cons, List.replicate_succ]
  simp only [Hu]
  rw [Xe i b cs, List.count_cons]
  by_cases h : c = i
  ·rw [if_pos h]; simp [h, List.replicate_succ]
  ·rw [if_neg h]; simp [h]
theorem Py (i : Nat) : ∀ (c : List Nat) (X : Li), c.length = X.length → (Hu i c X).length = c.count i
 | [], [], _ => rfl
 | [], _ :: _, h => by simp at h
 | _ :: _, [], h => by simp at h
 | c :: cs, x :: xs, h => by
  simp only [Hu]
  have := Py i cs xs (by simpa using h)
  rw [List.count_cons]
  by_cases h : c = i
  ·rw [if_pos h]; simp [h, this]
  ·rw [if_neg h]; simp [h, this]
theorem Mg {i : Nat} : ∀ {c : List Nat} {X : Li} {b : Int}, b ∈ Hu i c X → b ∈ X
 | [], _, _, h => by simp [Hu] at h
 | _ :: _, [], _, h => by simp [Hu] at h
 | c :: cs, x :: xs, b, h => by
  simp only [Hu] at h
  split at h
  ·rcases List.mem_cons.1 h with rfl | h
   ·simp
   ·simp [Mg h]
  ·simp [Mg h]
theorem Oq (m : Nat) : ∀ (c : List Nat), (∀ x, x ∈ c → x < m) → Do m (fun i => (c.count i : Int)) = (c.length : Int)
 | [], _ => by rw [eD fun i _ => by simp]; rfl
 | c :: cs, hc => by
  have Y := Oq m cs fun y W => hc y (by simp [W])
  rw [Yh (f := fun i => (cs.count i : Int)) (k := c) (fun i M => by rw [List.count_cons]; simp [Ne.symm M]) (hc c (by simp)), Y]
  rw [List.count_cons]; simp; omega
theorem eU {R : Li} {s : Int} (hl : R.length ≤ 64) (W : ∀ (k : Nat) (x : Int), R[k]? = some x → 1 ≤ x ∧ x ≤ 1000) (hs : R.sum = s) (h1 : 1 ≤ s) : R8 R s = some 0 := by
 have : Ok (R8 R s) fun r => r = 0 := by
  unfold R8
  refine A8 (fun h => by omega) fun _ => .bind' (.forL (fun k st => st = Do k fun i => R.getD i 0) (fun _ => False) rfl ?_ ?_ (fun _ h => h.elim))
  ·rintro k x _ M rfl
   have := W k x M
   unfold R8.B2
   rw [if_neg (by simp; omega)]
   have hk := (gs M).1
   have Z : ∀ k, k ≤ R.length → 0 ≤ (Do k fun i => R.getD i 0) ∧ (Do k fun i => R.getD i 0) ≤ 1000 * k := by
    intro k
    induction k with
    | zero => intro _; simp [Do]
    | succ k ih =>
     intro h
     have Y := ih (by omega)
     have h3 := W k _ (gq (by omega))
     simp only [Do]
     rw [List.getD_eq_getElem?_getD, gq (by omega : k < R.length)]
     dsimp only [Option.getD]
     omega
   have Y := Z k (by omega)
   refine .pure ?_
   dsimp only [Sum.elim]
   rw [Be (by omega)]
   simp only [Do]
   rw [List.getD_eq_getElem?_getD, M]; rfl
  ·rintro _ rfl
   rw [← Kl, hs]
   unfold R8.J1
   dsimp only [Sum.elim]
   rw [if_neg (by simp; omega), if_neg (by simp; omega)]
   exact .pure rfl
 obtain ⟨r, h1, rfl⟩ := this
 exact h1
structure Tb (R : List Int) (rt : Arr Int 64) (C : Nat → Int) (ct : Arr Int 64) : Prop where
 rate : ∀ (i : Nat) (x : Int), R[i]? = some x → rt.l[i]? = some x
 cnt : ∀ i, i < 64 → ct.l[i]? = some (C i)
def bs (R : Li) (C : Nat → Int) : Nat → Nat
 | 0 => 0
 | k + 1 => if (C k + 1) * R.getD (bs R C k) 0 < (C (bs R C k) + 1) * R.getD k 0 then k else bs R C k
theorem Qb (R : Li) (C : Nat → Int) : ∀ k, bs R C (k + 1) < k + 1
 | 0 => by simp [bs]
 | k + 1 => by have := Qb R C k; rw [bs]; split <;> omega
theorem Xo {R : Li} {C : Nat → Int} (Y : ∀ (k : Nat) (x : Int), R[k]? = some x → 1 ≤ x) (hC : ∀ i, i < R.length → 0 ≤ C i) : ∀ k, k ≤ R.length → ∀ j, j < k → (C (bs R C k) + 1) * R.getD j 0 ≤ (C j + 1) * R.getD (bs R C k) 0
 | 0, _, j, hj => absurd hj (by omega)
 | k + 1, hk, j, hj => by
  have M : ∀ i, i < R.length → 1 ≤ R.getD i 0 := fun i hi => by
   rw [List.getD_eq_getElem?_getD, gq hi]; exact Y i _ (gq hi)
  have hb : bs R C k < R.length := by cases k with | zero => simp only [bs]; omega | succ k => have := Qb R C k; omega
  rw [bs]
  split
  ·rename_i W
   by_cases e : j = k
   ·subst e; exact Int.le_refl _
   ·have Z := Xo Y hC k (by omega) j (by omega)
    generalize bs R C k = b at hb W Z
    have p1 := M j (by omega); have p2 := M k (by omega); have p3 := M b hb
    generalize R.getD j 0 = rj at *; generalize R.getD k 0 = x at *; generalize R.getD b 0 = rb at *
    have h2 : (C k + 1) * rb * rj ≤ (C b + 1) * x * rj := Int.mul_le_mul_of_nonneg_right (by omega) (by omega)
    have h3 : (C b + 1) * rj * x ≤ (C j + 1) * rb * x := Int.mul_le_mul_of_nonneg_right Z (by omega)
    have h4 : (C k + 1) * rj * rb ≤ (C j + 1) * x * rb := by
     rw [Int.mul_right_comm (C k + 1), Int.mul_right_comm (C j + 1)]
     rw [Int.mul_right_comm (C b + 1) rj] at h3
     omega
    exact Int.le_of_mul_le_mul_right h4 (by omega)
  ·by_cases e : j = k
   ·subst e; omega
   ·exact Xo Y hC k (by omega) j (by omega)
theorem pW {R : Li} {C : Nat → Int} (Y : ∀ (k : Nat) (x : Int), R[k]? = some x → 1 ≤ x) (hC : ∀ i, i < R.length → 0 ≤ C i) {i : Nat} {x : Int} (hi : R[i]? = some x) (hlt : C i < x) :
  ∃ rb, R[bs R C R.length]? = some rb ∧ C (bs R C R.length) < rb := by
 have W := (gs hi).1
 have hb : bs R C R.length < R.length := by
  cases h : R.length with
  | zero => omega
  | succ k => exact Qb R C k
 have Z := Xo Y hC R.length (by omega) i W
 have M : R[bs R C R.length]? = some R[bs R C R.length] := gq hb
 refine ⟨_, M, ?_⟩
 rw [List.getD_eq_getElem?_getD, List.getD_eq_getElem?_getD, hi, M] at Z
 dsimp only [Option.getD] at Z
 have hrb := Y _ _ M
 generalize R[bs R C R.length] = rb at *
 have hx := Y i x hi
 have h2 : (C i + 1) * rb ≤ x * rb := Int.mul_le_mul_of_nonneg_right (by omega) (by omega)
 have h3 : (C (bs R C R.length) + 1) * x ≤ rb * x := by rw [Int.mul_comm rb]; omega
 have := Int.le_of_mul_le_mul_right h3 (by omega)
 omega
def dl (R : Li) : Nat → List Nat
 | 0 => []
 | m + 1 => dl R m ++ [bs R (fun i => ((dl R m).count i : Int)) R.length]
theorem Jh (R : Li) : ∀ m, (dl R m).length = m
 | 0 => rfl
 | m + 1 => by simp [dl, Jh R m]
structure Fair (R : List Int) (m : Nat) : Prop where
 mem : ∀ x, x ∈ dl R m → x < R.length
 le : ∀ (i : Nat) (x : Int), R[i]? = some x → ((dl R m).count i : Int) ≤ x
theorem dT {R : Li} (hr : ∀ (k : Nat) (x : Int), R[k]? = some x → 1 ≤ x) : ∀ m : Nat, (m : Int) ≤ R.sum → Fair R m
 | 0, _ => ⟨by simp [dl], fun i x hx => by have := hr i x hx; simp [dl]; omega⟩
 | m + 1, hm => by
  have h := dT hr m (by omega)
  have Y : ∃ (i : Nat) (x : Int), R[i]? = some x ∧ ((dl R m).count i : Int) < x := by
   refine Classical.byContradiction fun hn => ?_
   have W : Do R.length (fun i => R.getD i 0) ≤ Do R.length fun i => ((dl R m).count i : Int) := Mf fun i Z => by
    have hg : R[i]? = some R[i] := gq Z
    rw [List.getD_eq_getElem?_getD, hg]
    exact Int.not_lt.1 fun h => hn ⟨i, _, hg, h⟩
   rw [← Kl, Oq R.length _ h.mem, Jh] at W
   omega
  obtain ⟨i, x, Z, aa⟩ := Y
  obtain ⟨rb, W, h2⟩ := pW (C := fun i => ((dl R m).count i : Int)) hr (fun i _ => by omega) Z aa
  refine ⟨fun y M => ?_, fun j y hj => ?_⟩
  ·rcases List.mem_append.1 M with M | M
   ·exact h.mem y M
   ·simp at M; subst M; exact (gs W).1
  ·have := h.le j y hj
   rw [dl, List.count_append, List.count_singleton]
   by_cases e : bs R (fun i => ((dl R m).count i : Int)) R.length = j
   ·rw [e, hj] at W; cases W
    simp only [e] at h2
    simp [e]; omega
   ·simp [e]; omega
theorem Y6 {R : Li} (hr : ∀ (k : Nat) (x : Int), R[k]? = some x → 1 ≤ x) {m : Nat} (hm : R.sum = (m : Int)) : ∀ (i : Nat) (x : Int), R[i]? = some x → ((dl R m).count i : Int) = x := by
 have h := dT hr m (by omega)
 have Z := Oq R.length _ h.mem
 have e2 := Kl R
 rw [Jh] at Z
 have := cR (n := R.length) (f := fun i => ((dl R m).count i : Int)) (g := fun i => R.getD i 0) (fun i hi => by
  have W : R[i]? = some R[i] := gq hi
  rw [List.getD_eq_getElem?_getD, W]; exact h.le i _ W) (by omega)
 intro i x Y
 have M := this i (gs Y).1
 rw [List.getD_eq_getElem?_getD, Y] at M
 exact M
theorem pL {R : Li} {rt ct : Arr Int 64} {C : Nat → Int} (h : Tb R rt C ct) (hl : R.length ≤ 64) (hr : ∀ (k : Nat) (x : Int), R[k]? = some x → 1 ≤ x ∧ x ≤ 1000) (hC : ∀ i, i < R.length → 0 ≤ C i ∧ C i ≤ 1000)
  (h0 : R ≠ []) : Ro ⟨(R.length : Int), rt, ct⟩ = some ((bs R C R.length : Int), ⟨(R.length : Int), rt, ct⟩) := by
 refine Z5 ?_
 unfold Ro
 refine .bind' (.chk (by dsimp only; omega) ?_)
 rw [show ((R.length : Int).toNat) = R.length by omega]
 refine .bind' (.forJ (fun k st => (k = 0 ∧ st = -1) ∨ 0 < k ∧ st = (bs R C k : Int)) (.inl ⟨rfl, rfl⟩) ?_ ?_)
 ·intro k st hk hI
  have hx : R[k]? = some R[k] := gq hk
  have aa : R.getD k 0 = R[k] := by rw [List.getD_eq_getElem?_getD, hx]; rfl
  generalize R[k] = x at hx aa
  have hx1 := hr k x hx
  have hCk := hC k hk
  unfold Ro.B2
  refine .bind' (.eq (A1 (h.rate k x hx)) (A8 (fun _ => ?_) fun h => by dsimp only at h; omega))
  rcases hI with ⟨rfl, rfl⟩ | ⟨h1, rfl⟩
  ·refine A8 (fun _ => ?_) fun h => absurd (by omega) h
   unfold Ro.J4
   rw [if_pos rfl]
   refine .pure (.inr ⟨by omega, ?_⟩)
   simp [bs]
  ·refine A8 (fun h => by omega) fun _ => ?_
   obtain ⟨k, rfl⟩ : ∃ j, k = j + 1 := ⟨k - 1, by omega⟩
   have M : bs R C (k + 1) < R.length := by have := Qb R C k; omega
   have Y : R[bs R C (k + 1)]? = some R[bs R C (k + 1)] := gq M
   have Z : R.getD (bs R C (k + 1)) 0 = R[bs R C (k + 1)] := by rw [List.getD_eq_getElem?_getD, Y]; rfl
   have hrb := hr _ _ Y
   have hCb := hC _ M
   generalize R[bs R C (k + 1)] = rb at Y Z hrb
   have m1 : 0 ≤ (C (k + 1) + 1) * rb ∧ (C (k + 1) + 1) * rb ≤ 1001 * 1000 := ⟨Int.mul_nonneg (by omega) (by omega), Int.mul_le_mul (by omega) (by omega) (by omega) (by omega)⟩
   have m2 : 0 ≤ (C (bs R C (k + 1)) + 1) * x ∧ (C (bs R C (k + 1)) + 1) * x ≤ 1001 * 1000 := ⟨Int.mul_nonneg (by omega) (by omega), Int.mul_le_mul (by omega) (by omega) (by omega) (by omega)⟩
   have e : bs R C (k + 1 + 1) = if (C (k + 1) + 1) * R.getD (bs R C (k + 1)) 0 < (C (bs R C (k + 1)) + 1) * R.getD (k + 1) 0 then k + 1 else bs R C (k + 1) := rfl
   rw [Z, aa] at e
   generalize bs R C (k + 1) = b at e M Y hCb m2
   refine .bind' (.eq (A1 (h.cnt (k + 1) (by omega))) (.bind' (.eq (A1 (h.rate _ rb Y)) (.bind' (.eq (A1 (h.cnt b (by omega))) ?_)))))
   dsimp only
   rw [Be (by omega : _ ≤ C (k + 1) + 1 ∧ _), Be (by omega : _ ≤ C b + 1 ∧ _), Be (by omega), Be (by omega)]
   unfold Ro.J4
   rw [e]
   refine A8 (fun W => .pure (.inr ⟨by omega, ?_⟩)) fun W => .pure (.inr ⟨by omega, ?_⟩)
   ·rw [if_pos (by simpa using W)]
   ·rw [if_neg (by simpa using W)]
 ·intro st hI
  have : R.length ≠ 0 := fun h => h0 (List.length_eq_zero_iff.1 h)
  rcases hI with ⟨h1, _⟩ | ⟨_, rfl⟩
  ·omega
  ·exact .pure rfl
theorem eN {f : List Piece} (h1 : f.length ≤ 400) (h2 : ∀ p, p ∈ f → 0 ≤ p.Batch ∧ p.Batch < 1000 ∧ 0 ≤ p.Volume ∧ p.Volume ≤ 1000000) (Z : vol f ≤ 1000000000) : Jp f = some (Cm (lit f)) := by
 have : Ok (Nm f (fun x => some (Ij x))) fun r => r = false := by
  unfold Nm Rg
  refine .bind (Q := fun r => r = -1) (.bind' (.forL (fun _ _ => True) (fun _ => False) trivial ?_ (fun _ _ => .pure rfl) (fun _ h => h.elim))) (by rintro _ rfl; exact .pure (by simp))
  intro k x _ Y _
  have := h2 x (mg Y)
  unfold Rg.B2
  rw [Option.bind_some]
  have e : Ij x = false := by unfold Ij Ho; simp; omega
  rw [e]
  exact .pure trivial
 obtain ⟨r, M, rfl⟩ := this
 unfold Jp
 rw [if_neg (by simp; omega), M, Option.bind_some]
 unfold Jp.J1
 rw [if_neg (by simp), Iy (fun p W => (h2 p W).2.2.1) (by omega), Option.bind_some]
structure Share (k : Nat) (X : List Int) (s : List Piece) : Prop where
 len : s.length = k
 bat : ∀ p, p ∈ s → 0 ≤ p.Batch ∧ p.Batch < 1000 ∧ 0 ≤ p.Volume ∧ p.Volume ≤ 1000000
 lit : lit s = X
structure Dealt (R : List Int) (k : Nat) (X : List Int) (st : List (List Piece) × Int × Arr Int 64 × Arr Int 64) : Prop where
 n : st.2.1 = (R.length : Int)
 tb : Tb R st.2.2.1 (fun i => ((dl R X.length).count i : Int)) st.2.2.2
 sl : st.1.length = R.length
 sh : ∀ (i : Nat) (s : List Piece), st.1[i]? = some s → Share k (Hu i (dl R X.length) X) s
theorem mD {R : Li} {m : Nat} {rt ct : Arr Int 64} (hl : R.length ≤ 64) (Y : ∀ (k : Nat) (x : Int), R[k]? = some x → 1 ≤ x ∧ x ≤ 1000)
  (hs : (m : Int) < R.sum) (tb : Tb R rt (fun i => ((dl R m).count i : Int)) ct) (k : Nat) :
  Ok (Wr.B9 k ((R.length : Int), rt, ct)) fun r => r.1 = (R.length : Int) ∧ r.2.1 = rt ∧ Tb R rt (fun i => ((dl R (m + 1)).count i : Int)) r.2.2 := by
 have hf := dT (fun k x h => (Y k x h).1) m (by omega)
 have hc : ∀ i, i < R.length → 0 ≤ ((dl R m).count i : Int) ∧ ((dl R m).count i : Int) ≤ 1000 := fun i M => by
  have h1 := hf.le i _ (gq M)
  have h2 := Y i _ (gq M)
  omega
 have Z : R ≠ [] := by rintro rfl; simp at hs; omega
 have hb : bs R (fun i => ((dl R m).count i : Int)) R.length < R.length := by
  cases h : R.length with
  | zero => exact absurd (List.length_eq_zero_iff.1 h) Z
  | succ k => exact Qb R _ k
 unfold Wr.B9
 refine .bind' (.eq (pL tb hl Y hc Z) ?_)
 have W := hc _ hb
 rw [dl]
 generalize bs R (fun i => ((dl R m).count i : Int)) R.length = b at hb W
 refine .bind' (.eq (A1 (tb.cnt b (by omega))) (.pure ⟨rfl, rfl, tb.rate, fun i M => ?_⟩))
 dsimp only [Arr.set]
 rw [Fp, List.count_append, List.count_singleton]
 have := ct.h
 by_cases e : b = i
 ·subst e
  rw [if_pos ⟨rfl, by omega⟩, Be (by omega)]
  simp
 ·rw [if_neg (fun h => e h.1), tb.cnt i M]
  simp [e]
theorem aJ (R : Li) (m : Nat) : ∀ j, ∃ d, dl R (m + j) = dl R m ++ d ∧ d.length = j
 | 0 => ⟨[], by simp, rfl⟩
 | j + 1 => by
  obtain ⟨d, M, W⟩ := aJ R m j
  exact ⟨d ++ [bs R (fun i => ((dl R (m + j)).count i : Int)) R.length], by rw [← Nat.add_assoc, dl]; simp only [M, List.append_assoc], by simp [W]⟩
theorem Zp {l : List Piece} {R : Li} (hv : Vd l) (hl : R.length ≤ 64) (hr : ∀ (k : Nat) (x : Int), R[k]? = some x → 1 ≤ x ∧ x ≤ 1000) (Z : R.sum = vol l) {k : Nat} (hk : k < l.length) {st : List (List Piece) × Int × Arr Int 64 × Arr Int 64}
  (h : Dealt R k (lit (l.take k)) st) : Ok (Wr.B5 l k st) (Dealt R (k + 1) (lit (l.take (k + 1)))) := by
 obtain ⟨S, n, rt, ct⟩ := st
 obtain ⟨h4, h5, h6, h7⟩ := h
 dsimp only at h4 h5 h6 h7
 subst h4
 have hp : l[k]? = some l[k] := gq hk
 generalize l[k] = p at hp
 have hpv := hv.piece (mg hp)
 have hlk : lit (l.take (k + 1)) = lit (l.take k) ++ List.replicate p.Volume.toNat p.Batch := by
  rw [List.take_add_one, hp]; simp [Db, Dz]
 have htot : ((lit (l.take k)).length : Int) + p.Volume ≤ vol l := by
  have e1 := D3 (f := l.take k) fun q Y => hv.nn q (List.mem_of_mem_take Y)
  have e2 := D8 hp
  have e3 := Eu (f := l.drop (k + 1)) fun q Y => hv.nn q (List.mem_of_mem_drop Y)
  have e4 : vol l = vol (l.take (k + 1)) + vol (l.drop (k + 1)) := by rw [← Ev, List.take_append_drop]
  omega
 obtain ⟨d, hd, d1⟩ := aJ R (lit (l.take k)).length p.Volume.toNat
 have h1 := Jh R (lit (l.take k)).length
 generalize hc : dl R (lit (l.take k)).length = c at h5 h7 hd h1
 unfold Wr.B5
 refine .bind' (.eq (A1 hp) (.bind' (.chk (by dsimp only; omega) ?_)))
 dsimp only
 refine .bind (Q := fun r : Int × Arr Int 64 × Arr Int 64 => r.1 = (R.length : Int) ∧ r.2.1 = rt ∧ Tb R rt (fun i => ((c ++ d).count i : Int)) r.2.2)
  (.forJ (fun j r => r.1 = (R.length : Int) ∧ r.2.1 = rt ∧ Tb R rt (fun i => ((dl R ((lit (l.take k)).length + j)).count i : Int)) r.2.2)
   ⟨rfl, rfl, by simpa [hc] using h5⟩ ?_ fun _ h => by rw [hd] at h; exact h) ?_
 ·rintro j ⟨_, _, ct'⟩ hj ⟨rfl, rfl, d4⟩
  exact mD hl hr (by omega) d4 j
 rintro ⟨_, _, ct'⟩ ⟨rfl, rfl, d4⟩
 have hfr := dT (fun k x h => (hr k x h).1) ((lit (l.take k)).length + p.Volume.toNat) (by omega)
 have d3 := hfr.le
 rw [hd] at d3
 dsimp only at d4
 unfold Wr.J7
 dsimp only
 have hcnt : ∀ i, i < R.length → (d.count i : Int) ≤ 1000 := fun i hi => by
  have e1 := d3 i _ (gq hi)
  have e2 := hr i _ (gq hi)
  rw [List.count_append] at e1; omega
 refine .bind (Q := fun r : List (List Piece) => r.length = R.length ∧ ∀ (i : Nat) (s : List Piece), r[i]? = some s → Share (k + 1) (Hu i (c ++ d) (lit (l.take (k + 1)))) s)
  (.forJ (fun j r => r.length = R.length ∧ ∀ (i : Nat) (s : List Piece), r[i]? = some s → if i < j then Share (k + 1) (Hu i (c ++ d) (lit (l.take (k + 1)))) s else Share k (Hu i c (lit (l.take k))) s)
   ⟨h6, fun i s Z => by rw [if_neg (by omega)]; exact h7 i s Z⟩ ?_ ?_) ?_
 ·rintro j r hj ⟨r1, r2⟩
  have Z : r[j]? = some r[j] := gq (by omega)
  generalize r[j] = s at Z
  have W := r2 j s Z
  rw [if_neg (by omega)] at W
  unfold Wr.B8
  refine .bind' (.eq (A1 Z) (.bind' (.eq (A1 (d4.cnt j (by omega))) (.bind' (.eq (A1 (h5.cnt j (by omega))) (.bind' (.app (by have := W.len; have := hv.len; simp; omega) (.pure ?_))))))))
  dsimp only
  have hcj := hcnt j (by omega)
  have e : wr (((c ++ d).count j : Int) - (c.count j : Int)) = (d.count j : Int) := by
   rw [List.count_append, Be (by omega)]; omega
  rw [e]
  refine ⟨by simp [r1], fun i s' M => ?_⟩
  rw [Fp] at M
  by_cases hij : j = i
  ·subst hij
   rw [if_pos ⟨rfl, by omega⟩] at M
   cases M
   rw [if_pos (by omega)]
   refine ⟨by simp [W.len], fun q Y => ?_, ?_⟩
   ·rcases List.mem_append.1 Y with Y | Y
    ·exact W.bat q Y
    ·simp at Y; subst Y; dsimp only; omega
   ·rw [Db, Dz, W.lit, hlk, Xf j c d _ _ h1]
    congr 1
    rw [← d1, Xe]
    dsimp only
    rw [show ((d.count j : Int).toNat) = d.count j by omega]
  ·rw [if_neg (fun h => hij h.1)] at M
   have := r2 i s' M
   by_cases hlt : i < j
   ·rw [if_pos hlt] at this; rw [if_pos (by omega)]; exact this
   ·rw [if_neg hlt] at this; rw [if_neg (by omega)]; exact this
 ·rintro r ⟨r1, r2⟩
  refine ⟨r1, fun i s Z => ?_⟩
  have := r2 i s Z
  have hil := (gs Z).1
  rw [if_pos (by omega)] at this; exact this
 ·rintro r ⟨r1, r2⟩
  unfold Wr.J6
  have e : dl R (lit (l.take (k + 1))).length = c ++ d := by rw [hlk, List.length_append, List.length_replicate, hd]
  refine .pure ⟨rfl, by rw [e]; exact d4, r1, by rw [e]; exact r2⟩
theorem pQ {l : List Piece} {R : Li} (hv : Vd l) (hne : l ≠ []) (hl : R.length ≤ 64) (hr : ∀ (k : Nat) (x : Int), R[k]? = some x → 1 ≤ x ∧ x ≤ 1000) (W : R.sum = vol l) :
  Ok (Wr l R) fun r => r.2 = 0 ∧ r.1.length = R.length ∧ ∀ i, i < R.length → r.1[i]? = some (Cm (Hu i (dl R (lit l).length) (lit l))) ∧ (Cm (Hu i (dl R (lit l).length) (lit l))).length ≤ l.length := by
 have hv1 : 1 ≤ vol l := by
  have := P3 hv.can.pos
  have : l.length ≠ 0 := fun h => hne (List.length_eq_zero_iff.1 h)
  omega
 have hlen := hv.len; have hvol := hv.vol
 unfold Wr
 refine .bind' (.eq (mA hv) ?_)
 rw [if_neg (by
  have : l.length ≠ 0 := fun h => hne (List.length_eq_zero_iff.1 h)
  have e : ((l.length : Int) == 0) = false := by simp; omega
  rw [e]; simp; omega)]
 refine .bind (Q := fun r => r = vol l) (.forJ (fun k st => st = vol (l.take k)) rfl ?_ fun st h => by rw [h, List.take_length]) ?_
 ·rintro k _ hk rfl
  have hp : l[k]? = some l[k] := gq hk
  unfold Wr.B10
  refine .bind' (.eq (A1 hp) (.pure ?_))
  have e2 := D8 hp
  have e3 := Eu (f := l.drop (k + 1)) fun q hq => hv.nn q (List.mem_of_mem_drop hq)
  have e4 : vol l = vol (l.take (k + 1)) + vol (l.drop (k + 1)) := by rw [← Ev, List.take_append_drop]
  have e5 := Eu (f := l.take (k + 1)) fun q hq => hv.nn q (List.mem_of_mem_take hq)
  rw [e2] at e4 e5 ⊢
  dsimp only
  exact Be (by omega)
 rintro _ rfl
 unfold Wr.J1
 refine .bind' (.eq (eU hl hr W hv1) ?_)
 rw [if_neg (by simp)]
 refine .bind' (.mk R.length rfl (by omega) ?_)
 have hst : ∃ a : Arr Int 64, jX (Ck 64 (0 : Int)) R = some a ∧ ∀ (i : Nat) (x : Int), R[i]? = some x → a.l[i]? = some x := by
  refine ⟨⟨R ++ (Ck 64 (0 : Int)).l.drop R.length, by simp [Ck]; omega⟩, dif_pos hl, fun i x hx => ?_⟩
  have := (gs hx).1
  dsimp only
  rw [List.getElem?_append_left (by omega), hx]
 obtain ⟨a, ha, ha'⟩ := hst
 unfold aP
 refine .bind' (.bind' (.eq ha (.pure ?_)))
 dsimp only
 refine .bind (Q := Dealt R l.length (lit l)) (.forJ (fun k st => Dealt R k (lit (l.take k)) st) ?_ ?_ fun st h => by rw [List.take_length] at h; exact h) ?_
 ·refine ⟨rfl, ⟨ha', fun i hi => ?_⟩, by simp, fun i s W => ?_⟩
  ·dsimp only [Ck]; rw [List.getElem?_replicate, if_pos hi]; simp [Em, dl]
  ·dsimp only at W
   rw [List.getElem?_replicate] at W
   split at W
   ·cases W; exact ⟨rfl, by simp, by simp [Em, Hu]⟩
   ·cases W
 ·rintro k st hk hc
  exact Zp hv hl hr W hk hc
 ·rintro st ⟨h4, h5, h6, h7⟩
  have h1 := Jh R (lit l).length
  have Z := Y6 (fun k x h => (hr k x h).1) (m := (lit l).length) (by rw [D3 hv.nn]; exact W)
  generalize dl R (lit l).length = c at h5 h7 h1 Z
  unfold Wr.J2
  refine .bind (Q := fun r : List (List Piece) => r.length = R.length ∧ ∀ i, i < R.length → r[i]? = some (Cm (Hu i c (lit l))) ∧ (Cm (Hu i c (lit l))).length ≤ l.length) (.forJ (fun j r => r.length = R.length ∧ ∀ (i : Nat) (s : List Piece), r[i]? = some s → if i < j then s = Cm (Hu i c (lit l)) ∧ s.length ≤ l.length else Share l.length (Hu i c (lit l)) s) ⟨h6, fun i s W => by rw [if_neg (by omega)]; exact h7 i s W⟩ ?_ ?_) ?_
  ·rintro j r hj ⟨r1, r2⟩
   have aa : r[j]? = some r[j] := gq (by omega)
   generalize r[j] = s at aa
   have M := r2 j s aa
   rw [if_neg (by omega)] at M
   have hx : R[j]? = some R[j] := gq (by omega)
   have e1 := Z j _ hx
   have e2 := hr j _ hx
   have e3 := D3 fun p hp => (M.bat p hp).2.2.1
   rw [M.lit, Py j c _ h1] at e3
   unfold Wr.B4
   refine .bind' (.eq (A1 aa) (.bind' (.eq (eN (f := s) (by have := M.len; omega) M.bat (by omega)) (.pure ?_))))
   dsimp only
   rw [M.lit]
   refine ⟨by simp [r1], fun i s' Y => ?_⟩
   rw [Fp] at Y
   by_cases hij : j = i
   ·subst hij
    rw [if_pos ⟨rfl, by omega⟩] at Y
    cases Y
    rw [if_pos (by omega)]
    refine ⟨rfl, ?_⟩
    have := Zo fun p hp => (M.bat p hp).2.2.1
    rw [M.lit] at this
    have := M.len
    omega
   ·rw [if_neg (fun h => hij h.1)] at Y
    have := r2 i s' Y
    by_cases hlt : i < j
    ·rw [if_pos hlt] at this; rw [if_pos (by omega)]; exact this
    ·rw [if_neg hlt] at this; rw [if_neg (by omega)]; exact this
  ·rintro r ⟨r1, r2⟩
   refine ⟨r1, fun i hi => ?_⟩
   have hg : r[i]? = some r[i] := gq (by omega)
   have := r2 i _ hg
   rw [if_pos (by omega)] at this
   rw [← this.1]
   exact ⟨hg, this.2⟩
  ·rintro r ⟨r1, r2⟩
   exact .pure ⟨rfl, r1, r2⟩
theorem Cn {α : Type} {l : List α} {k : Nat} (h : k < l.length) : ∃ x, l[k]? = some x := ⟨_, gq h⟩
def sl (c : Nat → Option Int) : Nat → List (Nat × Int)
 | 0 => []
 | n + 1 => sl c n ++ ((c n).map fun r => (n, r)).toList
theorem Dy {c : Nat → Option Int} {n : Nat} (h : c n = none) : sl c (n + 1) = sl c n := by simp [sl, h]
theorem Ew {c : Nat → Option Int} {n : Nat} {r : Int} (h : c n = some r) : sl c (n + 1) = sl c n ++ [(n, r)] := by simp [sl, h]
theorem Gy {c : Nat → Option Int} : ∀ {n : Nat} {x : Nat × Int}, x ∈ sl c n ↔ x.1 < n ∧ c x.1 = some x.2
 | 0, x => by simp [sl]
 | n + 1, x => by
  cases h : c n with
  | none =>
   rw [Dy h, Gy]
   constructor
   ·rintro ⟨W, M⟩; exact ⟨by omega, M⟩
   ·rintro ⟨W, M⟩
    by_cases e : x.1 = n
    ·rw [e, h] at M; cases M
    ·exact ⟨by omega, M⟩
  | some r =>
   rw [Ew h, List.mem_append, Gy, List.mem_singleton]
   constructor
   ·rintro (⟨W, M⟩ | rfl)
    ·exact ⟨by omega, M⟩
    ·exact ⟨by omega, h⟩
   ·rintro ⟨W, M⟩
    by_cases e : x.1 = n
    ·rw [e, h] at M
     exact .inr (by obtain ⟨a, b⟩ := x; cases M; cases e; rfl)
    ·exact .inl ⟨by omega, M⟩
theorem Pk {c : Nat → Option Int} {n : Nat} {i : Nat} {x : Nat × Int} (h : (sl c n)[i]? = some x) : x.1 < n ∧ c x.1 = some x.2 := Gy.1 (mg h)
theorem aA {c : Nat → Option Int} : ∀ {n : Nat} {i j : Nat} {x y : Nat × Int}, (sl c n)[i]? = some x → (sl c n)[j]? = some y → x.1 = y.1 → i = j
 | 0, i, j, x, y, hi, _, _ => by simp [sl] at hi
 | n + 1, i, j, x, y, hi, hj, e => by
  cases h : c n with
  | none => rw [Dy h] at hi hj; exact aA hi hj e
  | some r =>
   rw [Ew h, List.getElem?_append] at hi hj
   split at hi <;> split at hj
   ·exact aA hi hj e
   ·have W := (Pk hi).1
    have M := mg hj
    simp at M; subst M; dsimp only at e; omega
   ·have W := (Pk hj).1
    have M := mg hi
    simp at M; subst M; dsimp only at e; omega
   ·have W := (gs hi).1
    have M := (gs hj).1
    simp at W M; omega
theorem Z9 {c : Nat → Option Int} (f : Nat → Int → Int) : ∀ n, ((sl c n).map fun x => f x.1 x.2).sum = Do n fun k => match c k with | some r => f k r | none => 0
 | 0 => rfl
 | n + 1 => by
  simp only [Do]
  rw [← Z9 f n]
  cases h : c n with
  | none => rw [Dy h]; simp
  | some r => rw [Ew h]; simp
theorem Px {β : Type} {c : Nat → Option Int} (f : Nat → Int → List β) : ∀ n, (((sl c n).flatMap fun x => f x.1 x.2).length : Int) = Do n fun k => match c k with | some r => ((f k r).length : Int) | none => 0
 | 0 => rfl
 | n + 1 => by
  simp only [Do]
  rw [← Px f n]
  cases h : c n with
  | none => rw [Dy h]; simp
  | some r => rw [Ew h, List.flatMap_append, List.length_append]; simp
theorem Gz (c : Nat → Option Int) : ∀ n, (sl c n).length ≤ n
 | 0 => Nat.le_refl _
 | n + 1 => by have := Gz c n; cases h : c n with | none => rw [Dy h]; omega | some r => rw [Ew h, List.length_append, List.length_singleton]; omega
def cP (n : Nw) (p : Plan) (v : Int) (b : Bool) (k : Nat) : Option Int :=
 match n.Ports[k]?, p.Ports[k]? with
 | some x, some r => if x.Node = v ∧ r ≠ 0 ∧ decide (r > 0) = b then some (max r (-r)) else none
 | _, _ => none
def cS (n : Nw) (p : Plan) (v : Int) (b : Bool) (k : Nat) : Option Int :=
 match n.Segments[k]?, p.Rates[k]? with
 | some s, some r => if r ≠ 0 ∧ (if b = true then (Bn s r).2 else (Bn s r).1) = v then some (max r (-r)) else none
 | _, _ => none
def ci (l : List (Nat × Int)) : List (Int × Int) := l.map fun x => ((x.1 : Int), x.2)
section
variable {n : Nw} {p : Plan} {v : Int} {b : Bool}
theorem X8 {k : Nat} {x : Port} {r : Int} (W : n.Ports[k]? = some x) (M : p.Ports[k]? = some r) : cP n p v b k = if x.Node = v ∧ r ≠ 0 ∧ decide (r > 0) = b then some (max r (-r)) else none := by simp only [cP, W, M]
theorem T6 {k : Nat} {s : Sg} {r : Int} (W : n.Segments[k]? = some s) (M : p.Rates[k]? = some r) : cS n p v b k = if r ≠ 0 ∧ (if b = true then (Bn s r).2 else (Bn s r).1) = v then some (max r (-r)) else none := by simp only [cS, W, M]
theorem pV {k : Nat} {a : Int} (h : cP n p v b k = some a) : ∃ x r, n.Ports[k]? = some x ∧ p.Ports[k]? = some r ∧ x.Node = v ∧ r ≠ 0 ∧ decide (r > 0) = b ∧ a = max r (-r) := by
 simp only [cP] at h
 split at h
 ·rename_i x r Y W
  by_cases M : x.Node = v ∧ r ≠ 0 ∧ decide (r > 0) = b
  ·rw [if_pos M] at h; cases h; exact ⟨x, r, Y, W, M.1, M.2.1, M.2.2, rfl⟩
  ·rw [if_neg M] at h; cases h
 ·cases h
theorem Ml {k : Nat} {a : Int} (h : cS n p v b k = some a) : ∃ s r, Flw n p k s r ∧ (if b = true then (Bn s r).2 else (Bn s r).1) = v ∧ a = max r (-r) := by
 simp only [cS] at h
 split at h
 ·rename_i s r Y W
  by_cases M : r ≠ 0 ∧ (if b = true then (Bn s r).2 else (Bn s r).1) = v
  ·rw [if_pos M] at h; cases h; exact ⟨s, r, ⟨Y, W, M.1⟩, M.2, rfl⟩
  ·rw [if_neg M] at h; cases h
 ·cases h
theorem Yq (hp : FlowOk n p) : Jl n.Ports p.Ports v b = some (ci (sl (cP n p v b) n.Ports.length)) := by
 have : Ok (Jl n.Ports p.Ports v b) fun r => r = ci (sl (cP n p v b) n.Ports.length) := by
  unfold Jl
  refine .forS (fun k Y => Y = ci (sl (cP n p v b) k)) rfl ?_ fun _ h => h
  rintro k x _ hx rfl
  have hl := (gs hx).1
  obtain ⟨r, hr⟩ := Cn (l := p.Ports) (k := k) (by have := hp.pl; omega)
  have hr1 := hp.prt k r hr
  refine .bind' (.eq (A1 hr) ?_)
  have W := X8 (v := v) (b := b) hx hr
  dsimp only
  by_cases h : x.Node = v ∧ r ≠ 0 ∧ decide (r > 0) = b
  ·rw [if_pos h] at W
   rw [if_neg (by simp [h.1, h.2.1, h.2.2]), Ew W, Be (by omega), show (0 : Int) - r = -r by omega]
   exact .pure (by simp [ci])
  ·rw [if_neg h] at W
   rw [if_pos, Dy W]
   ·exact .pure rfl
   ·by_cases M : x.Node = v
    ·by_cases h2 : r = 0
     ·simp [h2]
     ·have Z : ¬ decide (r > 0) = b := fun Z => h ⟨M, h2, Z⟩
      simp only [bne_iff_ne, Bool.or_eq_true, ne_eq, beq_iff_eq]
      exact .inr (.inr Z)
    ·simp [M]
 obtain ⟨r, M, rfl⟩ := this
 exact M
theorem cU (hn : NetC n) (hp : FlowOk n p) : Ji n.Segments p.Rates v b = some (ci (sl (cS n p v b) n.Segments.length)) := by
 have : Ok (Ji n.Segments p.Rates v b) fun r => r = ci (sl (cS n p v b) n.Segments.length) := by
  unfold Ji
  refine .forS (fun k W => W = ci (sl (cS n p v b) k)) rfl ?_ fun _ h => h
  rintro k x _ hx rfl
  have hl := (gs hx).1
  obtain ⟨r, Z⟩ := Cn (l := p.Rates) (k := k) (by have := hp.rl; omega)
  have hr1 := hp.rng k r x Z hx
  refine .bind' (.eq (A1 Z) ?_)
  have M := T6 (v := v) (b := b) hx Z
  dsimp only
  by_cases h : r ≠ 0 ∧ (if b = true then (Bn x r).2 else (Bn x r).1) = v
  ·rw [if_pos h] at M
   obtain ⟨Y, h2⟩ := h
   rw [if_neg (by cases b <;> simp_all), Ew M, Be (by omega), show (0 : Int) - r = -r by omega]
   exact .pure (by simp [ci])
  ·rw [if_neg h] at M
   rw [if_pos (by by_cases Y : r = 0 <;> cases b <;> simp_all), Dy M]
   exact .pure rfl
 obtain ⟨r, Y, rfl⟩ := this
 exact Y
theorem S4 : ∀ (w x : Li), w.length = x.length → Gr w x = Do x.length fun k => w.getD k 0 * x.getD k 0
 | [], [], _ => rfl
 | [], _ :: _, h => by simp at h
 | _ :: _, [], h => by simp at h
 | a :: w, y :: x, h => by
  have M := S4 w x (by simpa using h)
  rw [List.length_cons, Tc]
  simp only [Gr, List.getD_cons_zero, List.getD_cons_succ]
  rw [M]
theorem lX (Y : FlowOk n p) {v : Nat} (hv : v < 24) :
  Do n.Ports.length (fun k => (cP n p v true k).getD 0) + Do n.Segments.length (fun k => (cS n p v true k).getD 0) = Do n.Ports.length (fun k => (cP n p v false k).getD 0) + Do n.Segments.length (fun k => (cS n p v false k).getD 0) := by
 have h := Y.bal v hv
 rw [S4 _ _ (by simp [wt, Y.rl]), S4 _ _ (by simp [wp, Y.pl]), Y.rl, Y.pl] at h
 have e1 : Do n.Ports.length (fun k => (cP n p v true k).getD 0) = Do n.Ports.length (fun k => (wp n v).getD k 0 * p.Ports.getD k 0) + Do n.Ports.length (fun k => (cP n p v false k).getD 0) := by
  rw [← Sh]
  refine Ff fun k hk => ?_
  have M : n.Ports[k]? = some n.Ports[k] := gq hk
  obtain ⟨r, Z⟩ := Cn (l := p.Ports) (k := k) (by have := Y.pl; omega)
  generalize n.Ports[k] = x at M
  have hw : (wp n v).getD k 0 = ind x.Node v := by
   rw [List.getD_eq_getElem?_getD, wp, List.getElem?_map, M]; rfl
  rw [hw, List.getD_eq_getElem?_getD, Z, X8 M Z, X8 M Z]
  dsimp only [Option.getD]
  by_cases h1 : x.Node = (v : Int)
  ·rw [h1, H5]
   rcases Int.lt_trichotomy r 0 with W | W | W
   ·rw [if_neg (by simp; omega), if_pos (by simp; omega)]; simp; omega
   ·rw [if_neg (by simp [W]), if_neg (by simp [W])]; simp [W]
   ·rw [if_pos (by simp; omega), if_neg (by simp; omega)]; simp; omega
  ·rw [Gn h1, if_neg (fun h => h1 h.1), if_neg (fun h => h1 h.1)]; simp
 have e2 : Do n.Segments.length (fun k => (cS n p v true k).getD 0) = Do n.Segments.length (fun k => (wt n v).getD k 0 * p.Rates.getD k 0) + Do n.Segments.length (fun k => (cS n p v false k).getD 0) := by
  rw [← Sh]
  refine Ff fun k hk => ?_
  have M : n.Segments[k]? = some n.Segments[k] := gq hk
  obtain ⟨r, Z⟩ := Cn (l := p.Rates) (k := k) (by have := Y.rl; omega)
  generalize n.Segments[k] = s at M
  have hw : (wt n v).getD k 0 = ind s.To v - ind s.From v := by
   rw [List.getD_eq_getElem?_getD, wt, List.getElem?_map, M]; rfl
  rw [hw, List.getD_eq_getElem?_getD, Z, T6 M Z, T6 M Z]
  dsimp only [Option.getD]
  by_cases h0 : r = 0
  ·rw [if_neg (fun h => h.1 h0), if_neg (fun h => h.1 h0)]; simp [h0]
  ·rw [if_pos rfl, if_neg (by simp : ¬ (false = true))]
   rcases lB (s := s) h0 with ⟨he, W⟩ | ⟨he, W⟩ <;> rw [he] <;> dsimp only <;> by_cases ha : s.To = (v : Int) <;> by_cases hb : s.From = (v : Int) <;> simp [ind, ha, hb, h0] <;> omega
 omega
end
structure Rp (m : Nat) (l : List (List Piece)) (F : Nat → List Int) : Prop where
 len : l.length = m
 get : ∀ i, i < m → l[i]? = some (Cm (F i))
def La (F : Nat → Li) (i : Nat) (X : Li) : Nat → Li := fun j => if j = i then X else F j
theorem Rp.set {m i : Nat} {l : List (List Piece)} {F : Nat → Li} (h : Rp m l F) (X : Li) : Rp m (l.set i (Cm X)) (La F i X) := by
 refine ⟨by simp [h.len], fun j M => ?_⟩
 have := h.len
 rw [Fp]
 unfold La
 by_cases e : i = j
 ·subst e; rw [if_pos ⟨rfl, by omega⟩, if_pos rfl]
 ·rw [if_neg (fun h => e h.1), if_neg (Ne.symm e)]; exact h.get j M
theorem Rp.congr {m : Nat} {l : List (List Piece)} {F G : Nat → Li} (h : Rp m l F) (e : ∀ i, i < m → G i = F i) : Rp m l G := ⟨h.len, fun i hi => by rw [e i hi]; exact h.get i hi⟩
theorem Rp.det {m : Nat} {l k : List (List Piece)} {F : Nat → Li} (h : Rp m l F) (h' : Rp m k F) : l = k := by
 refine List.ext_getElem? fun i => ?_
 by_cases M : i < m
 ·rw [h.get i M, h'.get i M]
 ·rw [List.getElem?_eq_none (by have := h.len; omega), List.getElem?_eq_none (by have := h'.len; omega)]
def qu (r : Int) (F : Li) : Li := if r < 0 then F else F.reverse
theorem kQ (r : Int) (F : Li) : (qu r F).length = F.length := by unfold qu; split <;> simp
theorem aB {r : Int} {F : Li} {b : Int} : b ∈ qu r F ↔ b ∈ F := by unfold qu; split <;> simp
def gv (r : Int) (F I : Li) : Li := (qu r F ++ I).take I.length
def fl (r : Int) (F I : Li) : Li := qu r ((qu r F ++ I).drop I.length)
theorem sK (r : Int) (F I : Li) : (gv r F I).length = I.length := by unfold gv; rw [List.length_take, List.length_append]; omega
theorem lA (r : Int) (F I : Li) : (fl r F I).length = F.length := by unfold fl; rw [kQ, List.length_drop, List.length_append, kQ]; omega
theorem sJ {r : Int} {F I : Li} {b : Int} (h : b ∈ gv r F I) : b ∈ F ∨ b ∈ I := by
 have := List.mem_of_mem_take h
 exact (List.mem_append.1 this).imp aB.1 id
theorem kZ {r : Int} {F I : Li} {b : Int} (h : b ∈ fl r F I) : b ∈ F ∨ b ∈ I := by
 have := List.mem_of_mem_drop (aB.1 h)
 exact (List.mem_append.1 this).imp aB.1 id
theorem pB {x : advance_line} {i : Nat} {r : Int} {m : Nat} {F G : Nat → Li} {I : Li} (hr : x.p.Rates[i]? = some r) (hi : i < m) (Z : Rp m x.fills F) (hG : Rp m x.given G) (vF : Vd (Cm (F i))) (vI : Vd (Cm I)) :
  Ok (Ra x (i : Int) (Cm I)) fun q => q.1 = 4 ∧ (200 < (Cm (fl r (F i) I)).length ∨ 200 < (Cm (gv r (F i) I)).length) ∨ q.1 = 0 ∧ q.2.2.2 = x.out_ ∧ Rp m q.2.1 (La F i (fl r (F i) I)) ∧ Rp m q.2.2.1 (La G i (gv r (F i) I)) ∧ (Cm (fl r (F i) I)).length ≤ 200 ∧ (Cm (gv r (F i) I)).length ≤ 200 := by
 have hgl : (i : Nat) < x.given.length := by have := hG.len; omega
 obtain ⟨g, hg⟩ := Cn hgl
 unfold Ra
 refine .bind' (.eq (A1 hr) ?_)
 dsimp only
 by_cases M : r < 0
 ·rw [if_neg (by simp [M])]
  unfold Ra.J1
  refine .bind' (.eq (A1 (Z.get i hi)) ?_)
  rw [show decide (r < 0) = true by simp [M]]
  refine .bind (eG vF vI) fun q Y => ?_
  rcases Y with ⟨Y, W⟩ | ⟨rfl, h1, h2⟩
  ·rw [if_pos (by simp [Y])]; exact .pure (.inl ⟨rfl, by simpa [fl, gv, qu, M] using W⟩)
  ·rw [if_neg (by simp), if_neg (by simp)]
   unfold Ra.J2
   refine .bind' (.eq (A1 hg) (.pure (.inr ⟨rfl, rfl, ?_, ?_, ?_, ?_⟩)))
   ·have := Z.set (i := i) (fl r (F i) I)
    simpa [fl, qu, M] using this
   ·have := hG.set (i := i) (gv r (F i) I)
    simpa [gv, qu, M] using this
   ·simpa [fl, qu, M] using h1
   ·simpa [gv, qu, M] using h2
 ·rw [if_pos (by simp [M])]
  refine .bind' (.eq (Uc (by have := vI.len; omega)) ?_)
  rw [Is]
  unfold Ra.J1
  refine .bind' (.eq (A1 (Z.get i hi)) ?_)
  rw [show decide (r < 0) = false by simp [M]]
  refine .bind (eF vF (by rw [← Is]; exact vI.rev)) fun q Y => ?_
  have e1 : (I.reverse ++ F i).take (F i).length = fl r (F i) I := by
   unfold fl qu
   rw [if_neg M, if_neg M, List.reverse_drop, List.reverse_append, List.reverse_reverse, List.length_append, List.length_reverse]
   congr 1; omega
  have e2 : ((I.reverse ++ F i).drop (F i).length).reverse = gv r (F i) I := by
   unfold gv qu
   rw [if_neg M, List.reverse_drop, List.reverse_append, List.reverse_reverse, List.length_append, List.length_reverse]
   congr 1; omega
  rcases Y with ⟨Y, W⟩ | ⟨rfl, h1, h2⟩
  ·rw [if_pos (by simp [Y])]
   refine .pure (.inl ⟨rfl, ?_⟩)
   rw [← e1, ← e2, ← Is, List.length_reverse]; exact W
  ·rw [if_neg (by simp), if_pos (by simp)]
   refine .bind' (.eq (Uc (by dsimp only; omega)) ?_)
   unfold Ra.J2
   refine .bind' (.eq (A1 hg) (.pure (.inr ⟨rfl, rfl, ?_, ?_, ?_, ?_⟩)))
   ·dsimp only; rw [e1]; exact Z.set _
   ·dsimp only; rw [Is, e2]; exact hG.set _
   ·rw [← e1]; exact h1
   ·rw [← e2, ← Is, List.length_reverse]; exact h2
theorem Lb {c : Nat → Option Int} : ∀ {n k : Nat} {a : Int}, k < n → c k = some a → (sl c n)[(sl c k).length]? = some (k, a)
 | 0, k, a, h, _ => absurd h (by omega)
 | n + 1, k, a, h, hc => by
  by_cases e : k = n
  ·subst e; rw [Ew hc]; simp
  ·have M := Lb (n := n) (by omega : k < n) hc
   have W := (gs M).1
   cases h' : c n with
   | none => rw [Dy h']; exact M
   | some r => rw [Ew h', List.getElem?_append_left W]; exact M
theorem Nk {c : Nat → Option Int} {n j : Nat} {x : Nat × Int} (h : (sl c n)[j]? = some x) : (sl c x.1).length = j := by
 have M := Pk h
 exact aA (Lb M.1 M.2) h rfl
theorem Yk {α : Type} {f : Nat → α → List Piece → Option (List Piece)} {l : List α} {h : α → Li} {M0 : Li} (hf : ∀ k x M, l[k]? = some x → M.length ≤ 1000000 → f k x (Cm M) = some (Cm (M ++ h x))) (hb : ∀ x, x ∈ l → (h x).length ≤ 1000) (hl : l.length ≤ 100) (h0 : M0.length ≤ 100000) :
  forS f 0 l (Cm M0) = some (Cm (M0 ++ l.flatMap h)) := by
 have : Ok (forS f 0 l (Cm M0)) fun r => r = Cm (M0 ++ l.flatMap h) := by
  refine .forS (fun k Z => Z = Cm (M0 ++ (l.take k).flatMap h) ∧ ((l.take k).flatMap h).length ≤ 1000 * k) (by simp) ?_ fun Z h => by rw [h.1, List.take_length]
  rintro k x _ W ⟨rfl, hk⟩
  have hkl := (gs W).1
  have Y := hb x (mg W)
  refine ⟨_, hf k x _ W (by rw [List.length_append]; omega), ?_⟩
  rw [List.take_add_one, W]
  refine ⟨by simp [List.append_assoc], ?_⟩
  show ((l.take k ++ [x]).flatMap h).length ≤ _
  rw [List.flatMap_append, List.length_append, List.flatMap_singleton]
  omega
 obtain ⟨r, Y, h2⟩ := this
 rw [Y, h2]
structure Ln (n : Network) (p : Plan) (g : List Int) : Prop where
 net : NetC n
 flow : FlowOk n p
 gl : g.length = n.Ports.length
 gb : ∀ b, b ∈ g → 0 ≤ b ∧ b < 1000
def Eg (n : Nw) (p : Plan) (g : Li) (G : Nat → Li) (v : Int) : Li :=
 (sl (cP n p v true) n.Ports.length).flatMap (fun x => List.replicate x.2.toNat (g.getD x.1 0)) ++ (sl (cS n p v true) n.Segments.length).flatMap fun x => G x.1
section
variable {n : Nw} {p : Plan} {g od : Li} {fs gws os : List (List Piece)} {F G O : Nat → Li}
theorem Qn (h : FlowOk n p) {v : Int} {b : Bool} {k : Nat} {a : Int} (hc : cP n p v b k = some a) : 1 ≤ a ∧ a ≤ 1000 := by
 obtain ⟨x, r, _, M, _, W, _, rfl⟩ := pV hc
 have := h.prt k r M
 omega
theorem aK (h : FlowOk n p) {v : Int} {b : Bool} {k : Nat} {a : Int} (hc : cS n p v b k = some a) : 1 ≤ a ∧ a ≤ 1000 := by
 obtain ⟨x, r, ⟨W, M, Y⟩, _, rfl⟩ := Ml hc
 have := h.rng k r x M W
 omega
theorem eE (W : Ln n p g) (hG : Rp n.Segments.length gws G) (aa : ∀ i, i < n.Segments.length → (G i).length ≤ 1000) (v : Int) :
  Qr ⟨n, p, g, od, fs, gws, os⟩ v = some (Cm (Eg n p g G v), (fs, gws, os)) := by
 have s1 := W.net.segs1; have s2 := W.net.ports1
 unfold Qr
 dsimp only
 rw [Yq W.flow, Option.bind_some, cU W.net W.flow]
 have h1 := Yk (f := Qr.B1 ⟨n, p, g, od, fs, gws, os⟩) (l := ci (sl (cP n p v true) n.Ports.length)) (h := fun x => List.replicate x.2.toNat (g.getD x.1.toNat 0)) (M0 := []) (fun k x M Y hM => ?_) (fun x Y => ?_) (by
   have := Gz (cP n p v true) n.Ports.length
   simp [ci]; omega) (by simp)
 ·rw [Iu] at h1
  rw [h1, Option.bind_some, Option.bind_some]
  have h2 := Yk (f := Qr.B2 ⟨n, p, g, od, fs, gws, os⟩) (l := ci (sl (cS n p v true) n.Segments.length)) (h := fun x => G x.1.toNat) (M0 := [] ++ (ci (sl (cP n p v true) n.Ports.length)).flatMap fun x => List.replicate x.2.toNat (g.getD x.1.toNat 0)) (fun k x M Y hM => ?_) (fun x Y => ?_) (by
   have := Gz (cS n p v true) n.Segments.length
   simp [ci]; omega) ?_
  ·rw [h2, Option.bind_some]
   simp [Eg, ci, List.flatMap_map]
  ·obtain ⟨y, Z, rfl⟩ := List.mem_map.1 (mg Y)
   obtain ⟨y1, y2⟩ := Gy.1 Z
   unfold Qr.B2
   dsimp only
   have e := aa y.1 y1
   rw [A1 (hG.get y.1 y1), Option.bind_some, Y3 (El _).pos (by rw [C5]; omega), Option.bind_some, D2]
   simp
  ·obtain ⟨y, Z, rfl⟩ := List.mem_map.1 Y
   exact aa y.1 (Gy.1 Z).1
  ·have e := Px (c := cP n p v true) (fun k r => List.replicate r.toNat (g.getD k 0)) n.Ports.length
   have e3 : ∀ m : Nat, Do m (fun _ => 1000) = 1000 * (m : Int) := fun m => by
    induction m with
    | zero => rfl
    | succ m ih => simp only [Do]; rw [ih]; omega
   have e2 : (((sl (cP n p v true) n.Ports.length).flatMap fun x => List.replicate x.2.toNat (g.getD x.1 0)).length : Int) ≤ 1000 * (n.Ports.length : Int) := by
    rw [e, ← e3]
    refine Mf fun k hk => ?_
    cases h : cP n p v true k with
    | none => simp
    | some r => have := Qn W.flow h; simp; omega
   have e4 : ((ci (sl (cP n p v true) n.Ports.length)).flatMap fun x => List.replicate x.2.toNat (g.getD x.1.toNat 0)) = (sl (cP n p v true) n.Ports.length).flatMap fun x => List.replicate x.2.toNat (g.getD x.1 0) := by
    simp [ci, List.flatMap_map]
   rw [List.nil_append, e4]
   omega
 ·obtain ⟨y, Z, rfl⟩ := List.mem_map.1 (mg Y)
  obtain ⟨y1, y2⟩ := Gy.1 Z
  have hv := Qn W.flow y2
  obtain ⟨b, hb⟩ := Cn (l := g) (k := y.1) (by rw [W.gl]; exact y1)
  unfold Qr.B1
  dsimp only
  rw [A1 hb, Option.bind_some, Y3 (by simp; omega) (by simp [vol]; omega), Option.bind_some, Dz]
  simp [List.getD_eq_getElem?_getD, hb]
 ·obtain ⟨y, Z, rfl⟩ := List.mem_map.1 Y
  have := Qn W.flow (Gy.1 Z).2
  simp; omega
def Fu (n : Nw) (p : Plan) (v : Int) : Li := (sl (cP n p v false) n.Ports.length).map (·.2) ++ (sl (cS n p v false) n.Segments.length).map (·.2)
theorem kU {v : Int} {k : Nat} {a : Int} (M : k < n.Ports.length) (h : cP n p v false k = some a) : (Fu n p v)[(sl (cP n p v false) k).length]? = some a := by
 have := Lb M h
 have W := (gs this).1
 rw [Fu, List.getElem?_append_left (by simpa using W), List.getElem?_map, this]; rfl
theorem kS {v : Int} {i : Nat} {a : Int} (hi : i < n.Segments.length) (h : cS n p v false i = some a) : (Fu n p v)[(sl (cP n p v false) n.Ports.length).length + (sl (cS n p v false) i).length]? = some a := by
 have := Lb hi h
 rw [Fu, List.getElem?_append_right (by simp), List.length_map, Nat.add_sub_cancel_left, List.getElem?_map, this]; rfl
theorem Ms (v : Int) : (Fu n p v).length = (sl (cP n p v false) n.Ports.length).length + (sl (cS n p v false) n.Segments.length).length := by simp [Fu]
theorem Hz (h : FlowOk n p) (v : Int) : ∀ (k : Nat) (x : Int), (Fu n p v)[k]? = some x → 1 ≤ x ∧ x ≤ 1000 := by
 intro k x Y
 rcases List.mem_append.1 (mg Y) with M | M <;> obtain ⟨y, W, rfl⟩ := List.mem_map.1 M
 ·exact Qn h (Gy.1 W).2
 ·exact aK h (Gy.1 W).2
theorem lW (v : Int) : (Fu n p v).sum = Do n.Ports.length (fun k => (cP n p v false k).getD 0) + Do n.Segments.length (fun k => (cS n p v false k).getD 0) := by
 rw [Fu, List.sum_append, Z9 (c := cP n p v false) (fun _ r => r), Z9 (c := cS n p v false) (fun _ r => r)]
 congr 1 <;> exact Ff fun k _ => by split <;> rename_i h <;> rw [h] <;> rfl
theorem lO (W : Ln n p g) {v : Int} (M : ∀ i a, i < n.Segments.length → cS n p v true i = some a → ((G i).length : Int) = a) :
  ((Eg n p g G v).length : Int) = Do n.Ports.length (fun k => (cP n p v true k).getD 0) + Do n.Segments.length (fun k => (cS n p v true k).getD 0) := by
 rw [Eg, List.length_append, Int.natCast_add, Px (c := cP n p v true) (fun k r => List.replicate r.toNat (g.getD k 0)), Px (c := cS n p v true) (fun k _ => G k)]
 congr 1 <;> refine Ff fun k Y => ?_
 ·cases h : cP n p v true k with
  | none => rfl
  | some r => have := Qn W.flow h; simp; omega
 ·cases h : cS n p v true k with
  | none => rfl
  | some r => simp [M k r Y h]
theorem Sj (W : Ln n p g) {v : Int} (hG : ∀ i, i < n.Segments.length → bZ (G i)) : bZ (Eg n p g G v) := by
 intro b M
 rcases List.mem_append.1 M with M | M <;> obtain ⟨y, Z, M⟩ := List.mem_flatMap.1 M
 ·obtain ⟨_, rfl⟩ := List.mem_replicate.1 M
  obtain ⟨x, Y⟩ := Cn (l := g) (k := y.1) (by rw [W.gl]; exact (Gy.1 Z).1)
  rw [List.getD_eq_getElem?_getD, Y]
  exact W.gb _ (mg Y)
 ·exact hG y.1 (Gy.1 Z).1 b M
def zP (n : Nw) (p : Plan) (v : Int) (S : Li) (k : Nat) : Li := Hu (sl (cP n p v false) k).length (dl (Fu n p v) S.length) S
def zS (n : Nw) (p : Plan) (v : Int) (S : Li) (i : Nat) : Li := Hu ((sl (cP n p v false) n.Ports.length).length + (sl (cS n p v false) i).length) (dl (Fu n p v) S.length) S
theorem Z8 (M : FlowOk n p) {v : Int} {S : Li} (W : (Fu n p v).sum = (S.length : Int)) {i : Nat} {a : Int} (hi : i < n.Segments.length) (h : cS n p v false i = some a) : ((zS n p v S i).length : Int) = a := by
 rw [zS, Py _ _ _ (Jh _ _)]; exact Y6 (fun k x h => (Hz M v k x h).1) W _ _ (kS hi h)
abbrev T3 := (Nat → Li) × (Nat → Li) × (Nat → Li)
def nd (n : Nw) (p : Plan) (g : Li) (s : T3) (v : Int) : T3 :=
 (fun i => if (cS n p v false i).isSome = true then fl (p.Rates.getD i 0) (s.1 i) (zS n p v (Eg n p g s.2.1 v) i) else s.1 i,
  fun i => if (cS n p v false i).isSome = true then gv (p.Rates.getD i 0) (s.1 i) (zS n p v (Eg n p g s.2.1 v) i) else s.2.1 i,
  fun k => if (cP n p v false k).isSome = true then zP n p v (Eg n p g s.2.1 v) k else s.2.2 k)
structure Left (n : Network) (s : T3) (q : List (List Piece) × List (List Piece) × List (List Piece)) : Prop where
 fills : Rp n.Segments.length q.1 s.1
 given : Rp n.Segments.length q.2.1 s.2.1
 out : Rp n.Ports.length q.2.2 s.2.2
structure Tame (n : Network) (s : T3) : Prop where
 vd : ∀ i, i < n.Segments.length → Vd (Cm (s.1 i))
 gl : ∀ i, i < n.Segments.length → (Cm (s.2.1 i)).length ≤ 200
 ol : ∀ k, k < n.Ports.length → (Cm (s.2.2 k)).length ≤ 200
theorem cO {B : Nat → Int × Int → Li → Option Li} (Z : ∀ k x st, B k x st = Option.bind (Cp st [x.2]) fun l => some l) {l : List (Nat × Int)} {a : Li} (hl : l.length ≤ 100) (ha : a.length ≤ 1000) : forS B 0 (ci l) a = some (a ++ l.map (·.2)) := by
 have : Ok (forS B 0 (ci l) a) fun r => r = a ++ l.map (·.2) := by
  refine .forS (fun k st => st = a ++ (l.take k).map (·.2)) (by simp) ?_ fun st h => by
   rw [h]; simp [ci]
  rintro k x _ M rfl
  have hk := (gs M).1
  rw [Z]
  refine .bind' (.app (by simp [ci] at hk ⊢; omega) (.pure ?_))
  simp only [ci, List.getElem?_map] at M
  cases h : l[k]? with
  | none => rw [h] at M; cases M
  | some y =>
   rw [h] at M; cases M
   rw [List.take_add_one, h]; simp
 obtain ⟨r, W, Y⟩ := this
 rw [W, Y]
theorem lD {l : List (Nat × Int)} {k : Nat} {x : Int × Int} (h : (ci l)[k]? = some x) : ∃ y, l[k]? = some y ∧ x = ((y.1 : Int), y.2) := by
 simp only [ci, List.getElem?_map] at h
 cases h' : l[k]? with
 | none => rw [h'] at h; cases h
 | some y => rw [h'] at h; cases h; exact ⟨y, rfl, rfl⟩
def Over (n : Nw) (p : Plan) (g : Li) (s : T3) (v : Int) : Prop :=
 200 < (Cm (Eg n p g s.2.1 v)).length ∨ ∃ i a, i < n.Segments.length ∧ cS n p v false i = some a ∧ (200 < (Cm ((nd n p g s v).1 i)).length ∨ 200 < (Cm ((nd n p g s v).2.1 i)).length)
theorem Mt (W : Ln n p g) {v : Nat} (hv : v < n.Nodes.length) (lG : ∀ i a, i < n.Segments.length → cS n p (v : Int) true i = some a → ((G i).length : Int) = a) :
  (Fu n p v).sum = ((Eg n p g G v).length : Int) ∧ (Fu n p v).length ≤ 56 ∧ ((Eg n p g G v).length : Int) ≤ 56000 := by
 have s0 := W.net.nodes; have s1 := W.net.segs1; have s2 := W.net.ports1
 have Z := W.flow
 have M : (Fu n p v).sum = ((Eg n p g G v).length : Int) := by rw [lW, lO W lG, lX Z (by omega)]
 have lP := Gz (cP n p v false) n.Ports.length
 have lS := Gz (cS n p v false) n.Segments.length
 have Y : (Fu n p v).length ≤ 56 := by rw [Ms]; omega
 refine ⟨M, Y, ?_⟩
 rw [← M, Kl]
 have e1 : Do (Fu n p v).length (fun i => (Fu n p v).getD i 0) ≤ Do (Fu n p v).length fun _ => 1000 := Mf fun i hi => by
  obtain ⟨x, hx⟩ := Cn hi
  rw [List.getD_eq_getElem?_getD, hx]
  exact (Hz Z v i x hx).2
 have e3 : ∀ m : Nat, Do m (fun _ => 1000) = 1000 * (m : Int) := fun m => by
  induction m with
  | zero => rfl
  | succ m ih => simp only [Do]; rw [ih]; omega
 rw [e3] at e1; omega
theorem Yu (hL : Ln n p g) {v : Int} (M : (Fu n p v).sum = 0) : (∀ k, k < n.Ports.length → cP n p v false k = none) ∧ ∀ i, i < n.Segments.length → cS n p v false i = none := by
 have hp := hL.flow
 have Z : Fu n p v = [] := by
  cases h : Fu n p v with
  | nil => rfl
  | cons x l =>
   have hx := Hz hp v 0 x (by rw [h]; rfl)
   have W : ∀ l : Li, (∀ y, y ∈ l → 0 ≤ y) → 0 ≤ l.sum := fun l => by
    induction l with
    | nil => intro _; simp
    | cons y l ih => intro h; have := ih (fun z hz => h z (by simp [hz])); have := h y (by simp); simp; omega
   have hl := W l fun y hy => by
    obtain ⟨i, Y⟩ := List.getElem?_of_mem hy
    have := Hz hp v (i + 1) y (by rw [h]; simpa using Y)
    omega
   rw [h] at M; simp at M; omega
 refine ⟨fun k hk => ?_, fun i Y => ?_⟩
 ·cases h : cP n p v false k with
  | none => rfl
  | some a => have := kU hk h; rw [Z] at this; simp at this
 ·cases h : cS n p v false i with
  | none => rfl
  | some a => have := kS Y h; rw [Z] at this; simp at this
theorem pJ {s : T3} (hL : Ln n p g) {v : Nat} (hv : v < n.Nodes.length) (hs : Left n s (fs, gws, os)) (ht : Tame n s)
  (bG : ∀ i, i < n.Segments.length → bZ (s.2.1 i) ∧ (s.2.1 i).length ≤ 1000) (lG : ∀ i a, i < n.Segments.length → cS n p (v : Int) true i = some a → ((s.2.1 i).length : Int) = a) :
  Ok (Wx ⟨n, p, g, od, fs, gws, os⟩ (v : Int)) fun q => q.1 = 4 ∧ Over n p g s (v : Int) ∨ q.1 = 0 ∧ (Cm (Eg n p g s.2.1 v)).length ≤ 200 ∧ Left n (nd n p g s v) q.2 ∧ Tame n (nd n p g s v) := by
 obtain ⟨hF, hG, hO⟩ := hs
 obtain ⟨F, G, O⟩ := s
 dsimp only at hF hG hO bG lG
 have s0 := hL.net.nodes; have s1 := hL.net.segs1; have s2 := hL.net.ports1
 have hp := hL.flow
 have hbat := Sj (v := (v : Int)) hL fun i M => (bG i M).1
 have lP := Gz (cP n p v false) n.Ports.length
 have lS := Gz (cS n p v false) n.Segments.length
 obtain ⟨ag, hRl, hsl⟩ := Mt hL hv lG
 unfold Wx
 rw [eE hL hG (fun i M => (bG i M).2) v, Option.bind_some]
 refine Dc (fun he => .pure (.inr ⟨rfl, by dsimp only at he ⊢; omega, ?_⟩)) fun hne => A8 (fun h => .pure (.inl ⟨rfl, .inl (by dsimp only at h ⊢; omega)⟩)) fun hlen => ?_
 ·-- nothing comes
  have hS : Eg n p g G v = [] := Te.1 (List.length_eq_zero_iff.1 (by dsimp only at he; omega))
  obtain ⟨hP, hSg⟩ := Yu hL (v := v) (by rw [ag, hS]; rfl)
  refine ⟨⟨hF.congr fun i M => ?_, hG.congr fun i M => ?_, hO.congr fun k Z => ?_⟩, fun i M => ?_, fun i M => ?_, fun k Z => ?_⟩
  ·dsimp only [nd]; rw [hSg i M]; rfl
  ·dsimp only [nd]; rw [hSg i M]; rfl
  ·dsimp only [nd]; rw [hP k Z]; rfl
  ·dsimp only [nd]; rw [hSg i M]; exact ht.vd i M
  ·dsimp only [nd]; rw [hSg i M]; exact ht.gl i M
  ·dsimp only [nd]; rw [hP k Z]; exact ht.ol k Z
 ·dsimp only at hne hlen ⊢
  rw [Yq hp, Option.bind_some, cU hL.net hp]
  rw [cO (B := Wx.B1) (fun _ _ _ => rfl) (by omega) (by simp), Option.bind_some, Option.bind_some, cO (B := Wx.B2) (fun _ _ _ => rfl) (by omega) (by simp; omega), Option.bind_some]
  rw [show ([] ++ (sl (cP n p v false) n.Ports.length).map (·.2) ++ (sl (cS n p v false) n.Segments.length).map (·.2)) = Fu n p v by simp [Fu]]
  have hVd : Vd (Cm (Eg n p g G v)) := cJ (by omega) hbat (by omega)
  refine .bind (pQ hVd (fun h => hne (by rw [h]; rfl)) (by omega) (Hz hp v) (by rw [C5]; exact ag)) ?_
  rintro ⟨sh, e⟩ ⟨he, c4, c5⟩
  dsimp only at he c4 c5
  subst he
  rw [D2] at c5
  rw [if_neg (by simp), Option.bind_some]
  have lenS := fun i a M h => Z8 hp ag (i := i) (a := a) M h
  have hZl : ∀ k, k < n.Ports.length → (cP n p v false k).isSome = true → (Cm (zP n p v (Eg n p g G v) k)).length ≤ 200 := fun k Z h => by
   obtain ⟨a, h⟩ := Option.isSome_iff_exists.1 h
   have := (c5 _ (gs (kU Z h)).1).2
   exact Nat.le_trans this (by omega)
  have memS : ∀ i b, b ∈ zS n p v (Eg n p g G v) i → b ∈ Eg n p g G v := fun i b hb => Mg hb
  generalize hZP : zP n p v (Eg n p g G v) = ZP at hZl
  generalize ad : zS n p v (Eg n p g G v) = ZS at lenS memS
  rw [Ms] at c4 c5
  refine .bind (Q := fun st : List (List Piece) × Int => st.2 = ((sl (cP n p v false) n.Ports.length).length : Int) ∧ Rp n.Ports.length st.1 fun k => if (cP n p v false k).isSome = true then ZP k else O k)
   (.forS (fun j st => st.2 = (j : Int) ∧ Rp n.Ports.length st.1 fun k => if (cP n p v false k).isSome = true ∧ (sl (cP n p v false) k).length < j then ZP k else O k) ⟨rfl, hO.congr fun k Z => by rw [if_neg (by omega)]⟩ ?_ ?_) ?_
  ·rintro j x ⟨ol, _⟩ hx ⟨rfl, aa⟩
   obtain ⟨⟨k, a⟩, hy, rfl⟩ := lD hx
   have hjl := (gs hy).1
   obtain ⟨Z, W⟩ := Pk hy
   have ab := Nk hy
   dsimp only at Z W ab aa
   obtain ⟨o, ho⟩ := Cn (l := ol) (k := k) (by rw [aa.len]; exact Z)
   unfold Wx.B3
   refine .bind' (.eq (A1 (c5 j (by omega)).1) (.bind' (.eq (A1 ho) (.pure ⟨?_, ?_⟩))))
   ·dsimp only; rw [Be (by omega)]; omega
   ·refine (aa.set (i := k) _).congr fun i M => ?_
    unfold La
    by_cases e : i = k
    ·subst e
     rw [if_pos rfl, if_pos ⟨by rw [W]; rfl, by omega⟩, ← hZP, zP, ab]
    ·rw [if_neg e]
     dsimp only
     by_cases h1 : (cP n p v false i).isSome = true ∧ (sl (cP n p v false) i).length < j
     ·rw [if_pos h1, if_pos ⟨h1.1, by omega⟩]
     ·rw [if_neg h1, if_neg]
      rintro ⟨h2, h3⟩
      refine h1 ⟨h2, ?_⟩
      obtain ⟨z, hz⟩ := Option.isSome_iff_exists.1 h2
      have := Lb M hz
      have : (sl (cP n p v false) i).length ≠ j := fun he => by
       rw [he, hy] at this; cases this; exact e rfl
      omega
  ·rintro ⟨ol, _⟩ ⟨rfl, aa⟩
   refine ⟨by simp [ci], aa.congr fun k Z => ?_⟩
   cases h : cP n p v false k with
   | none => rfl
   | some a =>
    have := (gs (Lb Z h)).1
    have e : (sl (cP n p (v : Int) false) k).length < (ci (sl (cP n p (v : Int) false) n.Ports.length)).length := by simpa [ci] using this
    simp [e]
  rintro ⟨ol, _⟩ ⟨rfl, aa⟩
  dsimp only at aa ⊢
  rw [Option.bind_some]
  refine .bind' (.forL (fun j st => st.2.2.2 = (((sl (cP n p v false) n.Ports.length).length + j : Nat) : Int) ∧ st.2.2.1 = ol ∧
    (Rp n.Segments.length st.1 fun i => if (cS n p v false i).isSome = true ∧ (sl (cS n p v false) i).length < j then fl (p.Rates.getD i 0) (F i) (ZS i) else F i) ∧
    (Rp n.Segments.length st.2.1 fun i => if (cS n p v false i).isSome = true ∧ (sl (cS n p v false) i).length < j then gv (p.Rates.getD i 0) (F i) (ZS i) else G i) ∧
    ∀ i, i < n.Segments.length → Vd (Cm (if (cS n p v false i).isSome = true ∧ (sl (cS n p v false) i).length < j then fl (p.Rates.getD i 0) (F i) (ZS i) else F i)) ∧ (Cm (if (cS n p v false i).isSome = true ∧ (sl (cS n p v false) i).length < j then gv (p.Rates.getD i 0) (F i) (ZS i) else G i)).length ≤ 200) (fun q => q.1 = 4 ∧ Over n p g (F, G, O) (v : Int))
   ⟨by simp, rfl, hF.congr fun k Z => by rw [if_neg (by omega)], hG.congr fun k Z => by rw [if_neg (by omega)], fun i M => by rw [if_neg (by omega), if_neg (by omega)]; exact ⟨ht.vd i M, ht.gl i M⟩⟩ ?_ ?_ fun q hq => .pure (.inl hq))
  ·rintro j x ⟨fl', gl', ol2, _⟩ hx ⟨rfl, rfl, ae, af, ah⟩
   obtain ⟨⟨i, a⟩, hy, rfl⟩ := lD hx
   have hjl := (gs hy).1
   obtain ⟨M, W⟩ := Pk hy
   have ab := Nk hy
   dsimp only at M W ab ae af ah
   obtain ⟨sg, r, hflw, _, ha⟩ := Ml W
   have hr := hflw.rate
   have hgd : p.Rates.getD i 0 = r := by rw [List.getD_eq_getElem?_getD, hr]; rfl
   have hi0 : ¬ ((cS n p v false i).isSome = true ∧ (sl (cS n p v false) i).length < j) := by omega
   obtain ⟨hc5, hc6⟩ := c5 ((sl (cP n p v false) n.Ports.length).length + j) (by omega)
   rw [show Hu ((sl (cP n p v false) n.Ports.length).length + j) (dl (Fu n p v) (Eg n p g G v).length) (Eg n p g G v) = ZS i by rw [← ad, zS, ab]] at hc5 hc6
   have hlen1 := lenS i a M W
   have ha1 := aK hp W
   have hbZ : bZ (ZS i) := fun b hb => hbat b (memS i b hb)
   have vF' : Vd (Cm (F i)) := ht.vd i M
   have vI : Ok (Ra ⟨n, p, g, od, fl', gl', ol2⟩ (i : Int) (Cm (ZS i))) _ := pB (x := ⟨n, p, g, od, fl', gl', ol2⟩) (r := r) (I := ZS i) hr M ae af (by rw [if_neg hi0]; exact vF') (cJ (by omega) hbZ (by omega))
   rw [if_neg hi0] at vI
   have ac : ∀ (A B : Nat → Li), ∀ i', i' < n.Segments.length → (if (cS n p v false i').isSome = true ∧ (sl (cS n p v false) i').length < j + 1 then A i' else B i') = La (fun i => if (cS n p v false i).isSome = true ∧ (sl (cS n p v false) i).length < j then A i else B i) i (A i) i' := fun A B i' Y => by
    unfold La
    by_cases e : i' = i
    ·subst e; rw [if_pos rfl, if_pos ⟨by rw [W]; rfl, by omega⟩]
    ·rw [if_neg e]
     dsimp only
     by_cases h1 : (cS n p v false i').isSome = true ∧ (sl (cS n p v false) i').length < j
     ·rw [if_pos h1, if_pos ⟨h1.1, by omega⟩]
     ·rw [if_neg h1, if_neg]
      rintro ⟨h2, h3⟩
      refine h1 ⟨h2, ?_⟩
      obtain ⟨z, hz⟩ := Option.isSome_iff_exists.1 h2
      have := Lb Y hz
      have : (sl (cS n p v false) i').length ≠ j := fun he => by
       rw [he, hy] at this; cases this; exact e rfl
      omega
   unfold Wx.B4
   refine .bind' (.eq (A1 hc5) (.bind vI ?_))
   rintro ⟨qc, qf, qg, qo⟩ hq
   dsimp only at hq
   rcases hq with ⟨hq, hov⟩ | ⟨rfl, rfl, q1, q2, q3, q4⟩
   ·rw [if_pos (by simp [hq])]
    refine .pure ⟨hq, .inr ⟨i, a, M, W, ?_⟩⟩
    dsimp only [nd]
    rw [if_pos (by rw [W]; rfl), if_pos (by rw [W]; rfl), hgd, ad]; exact hov
   ·rw [if_neg (by simp)]
    refine .pure ⟨?_, rfl, ?_, ?_, fun i' Y => ?_⟩
    ·dsimp only; rw [Be (by omega)]; omega
    ·refine q1.congr fun i' Y => ?_
     rw [← hgd]
     exact ac (fun i => fl (p.Rates.getD i 0) (F i) (ZS i)) F i' Y
    ·refine q2.congr fun i' Y => ?_
     rw [← hgd]
     exact ac (fun i => gv (p.Rates.getD i 0) (F i) (ZS i)) G i' Y
    ·rw [ac (fun i => fl (p.Rates.getD i 0) (F i) (ZS i)) F i' Y, ac (fun i => gv (p.Rates.getD i 0) (F i) (ZS i)) G i' Y]
     unfold La
     by_cases e : i' = i
     ·subst e
      rw [if_pos rfl, if_pos rfl, hgd]
      refine ⟨cJ q3 (fun b hb => ?_) ?_, q4⟩
      ·rcases kZ hb with hb | hb
       ·have := vF'.bat; rw [D2] at this; exact this b hb
       ·exact hbZ b hb
      ·rw [lA]; have := vF'.vol; rw [C5] at this; omega
     ·rw [if_neg e, if_neg e]; exact ah i' Y
  ·rintro ⟨fl', gl', _, _⟩ ⟨rfl, rfl, ae, af, ah⟩
   dsimp only at ae af ah
   have all : ∀ (A B : Nat → Li) i, i < n.Segments.length → (if (cS n p v false i).isSome = true then A i else B i) = if (cS n p v false i).isSome = true ∧ (sl (cS n p v false) i).length < (ci (sl (cS n p v false) n.Segments.length)).length then A i else B i := fun A B i M => by
    cases h : cS n p v false i with
    | none => rfl
    | some a =>
     have := (gs (Lb M h)).1
     have e : (sl (cS n p (v : Int) false) i).length < (ci (sl (cS n p (v : Int) false) n.Segments.length)).length := by simpa [ci] using this
     simp [e]
   have hV : ∀ i, i < n.Segments.length → Vd (Cm ((nd n p g (F, G, O) v).1 i)) ∧ (Cm ((nd n p g (F, G, O) v).2.1 i)).length ≤ 200 := fun i M => by
    dsimp only [nd]
    rw [ad, all (fun i => fl (p.Rates.getD i 0) (F i) (ZS i)) F i M, all (fun i => gv (p.Rates.getD i 0) (F i) (ZS i)) G i M]
    exact ah i M
   refine .pure (.inr ⟨rfl, by omega, ⟨ae.congr fun i M => ?_, af.congr fun i M => ?_, aa.congr fun k Z => ?_⟩, fun i M => (hV i M).1, fun i M => (hV i M).2, fun k Z => ?_⟩)
   ·dsimp only [nd]; rw [ad]; exact all (fun i => fl (p.Rates.getD i 0) (F i) (ZS i)) F i M
   ·dsimp only [nd]; rw [ad]; exact all (fun i => gv (p.Rates.getD i 0) (F i) (ZS i)) G i M
   ·dsimp only [nd]; rw [hZP]
   ·dsimp only [nd]; rw [hZP]
    split
    ·rename_i h; exact hZl k Z h
    ·exact ht.ol k Z
end
end Go.Proofs.YtaoclefkknloiaaGreat
