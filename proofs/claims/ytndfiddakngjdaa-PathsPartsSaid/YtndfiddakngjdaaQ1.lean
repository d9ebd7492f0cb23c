/- Following a flow through a network: one path. No condition. -/
import Derived.Test.YtndfiddakngjdaaP9
import Derived.Test.YtndfiddakngjdaaDp
namespace Go.Proofs.Ytndfiddakngjdaa
set_option linter.unusedVariables false
set_option linter.unusedSimpArgs false
open Go.Aw

/-- a lies before b, in the direction. -/
def Lt (up : Bool) (a b : Int) : Prop := if up = true then a < b else b < a
theorem Lt.ne {up : Bool} {a b : Int} (h : Lt up a b) : a ≠ b := by unfold Lt at h; split at h <;> omega
theorem Lt.trans {up : Bool} {a b c : Int} (h : Lt up a b) (k : Lt up b c) : Lt up a c := by
  cases up <;> simp only [Lt, if_true] at * <;> first | omega | (simp at *; omega)

/-- What is left of a plan. -/
structure Res (n : Network) (up : Bool) (rates ports : List Int) : Prop where
  rl : rates.length = n.Segments.length
  pl : ports.length = n.Ports.length
  rng : ∀ (k : Nat) (r : Int) (s : Segment), rates[k]? = some r → n.Segments[k]? = some s → -1000 ≤ r ∧ r ≤ 1000 ∧ (0 < r → Lt up s.From s.To) ∧ (r < 0 → Lt up s.To s.From)
  prt : ∀ (k : Nat) (x : Int), ports[k]? = some x → -1000 ≤ x ∧ x ≤ 1000
  bal : ∀ v, dot (wt n v) rates + dot (wp n v) ports = 0

theorem PlanOk.res {n : Network} {p : Plan} (h : PlanOk n p) : ∃ up, Res n up p.Rates p.Ports := by
  rcases h.dir with hd | hd
  · exact ⟨true, h.rl, h.pl, fun k r s hr hs => ⟨(h.rng k r s hr hs).1, (h.rng k r s hr hs).2.1, (hd k r s hr hs).1, (hd k r s hr hs).2⟩, h.prt, h.bal⟩
  · exact ⟨false, h.rl, h.pl, fun k r s hr hs => ⟨(h.rng k r s hr hs).1, (h.rng k r s hr hs).2.1, fun h => by have := (hd k r s hr hs).1 h; simpa [Lt] using this, fun h => by have := (hd k r s hr hs).2 h; simpa [Lt] using this⟩, h.prt, h.bal⟩

theorem dot_nonneg : ∀ {w l : List Int}, (∀ (k : Nat) (a x : Int), w[k]? = some a → l[k]? = some x → 0 ≤ a * x) → 0 ≤ dot w l
  | [], _, _ => by simp [dot]
  | _ :: _, [], _ => by simp [dot]
  | a :: w, x :: l, h => by
    have h0 := h 0 a x rfl rfl
    have := dot_nonneg (w := w) (l := l) fun k b y hb hy => h (k + 1) b y (by simpa using hb) (by simpa using hy)
    simp only [dot]; omega
theorem dot_pos : ∀ {w l : List Int} {k : Nat} {a x : Int}, (∀ (k : Nat) (a x : Int), w[k]? = some a → l[k]? = some x → 0 ≤ a * x) → w[k]? = some a → l[k]? = some x → 0 < a * x → 0 < dot w l
  | [], _, k, _, _, _, h, _, _ => by simp at h
  | _ :: _, [], k, _, _, _, _, h, _ => by simp at h
  | a :: w, x :: l, 0, b, y, h, hb, hy, hp => by
    simp at hb hy; subst hb; subst hy
    have := dot_nonneg (w := w) (l := l) fun k b y hb hy => h (k + 1) b y (by simpa using hb) (by simpa using hy)
    simp only [dot]; omega
  | a :: w, x :: l, k + 1, b, y, h, hb, hy, hp => by
    have h0 := h 0 a x rfl rfl
    have := dot_pos (w := w) (l := l) (k := k) (fun k b y hb hy => h (k + 1) b y (by simpa using hb) (by simpa using hy)) (by simpa using hb) (by simpa using hy) hp
    simp only [dot]; omega

theorem wt_at {n : Network} {k : Nat} {s : Segment} (v : Int) (h : n.Segments[k]? = some s) : (wt n v)[k]? = some (ind s.To v - ind s.From v) := by unfold wt; rw [List.getElem?_map, h]; rfl
theorem wp_at {n : Network} {k : Nat} {p : Port} (v : Int) (h : n.Ports[k]? = some p) : (wp n v)[k]? = some (ind p.Node v) := by unfold wp; rw [List.getElem?_map, h]; rfl

/-- Something comes to a node. -/
def Comes (n : Network) (rates ports : List Int) (v : Int) : Prop :=
  (∃ (i : Nat) (p : Port) (x : Int), n.Ports[i]? = some p ∧ p.Node = v ∧ ports[i]? = some x ∧ 0 < x) ∨
  ∃ (k : Nat) (s : Segment) (r : Int), n.Segments[k]? = some s ∧ rates[k]? = some r ∧ s.From ≠ s.To ∧ (0 < r ∧ s.To = v ∨ r < 0 ∧ s.From = v)

/-- What comes to a node leaves it. -/
theorem leaves {n : Network} {up : Bool} {rates ports : List Int} {v : Int} (h : Res n up rates ports) (hc : Comes n rates ports v) (hp : ∀ (i : Nat) (p : Port) (x : Int), n.Ports[i]? = some p → p.Node = v → ports[i]? = some x → 0 ≤ x)
    (hs : ∀ (k : Nat) (s : Segment) (r : Int), n.Segments[k]? = some s → rates[k]? = some r → ¬ (0 < r ∧ s.From = v) ∧ ¬ (r < 0 ∧ s.To = v)) : False := by
  have b := h.bal v
  have w1 : ∀ (k : Nat) (a x : Int), (wt n v)[k]? = some a → rates[k]? = some x → 0 ≤ a * x := by
    intro k a x ha hx
    have hkl := (List.getElem?_eq_some_iff.1 hx).1
    have hse : n.Segments[k]? = some (n.Segments[k]'(by have := h.rl; omega)) := List.getElem?_eq_getElem _
    generalize n.Segments[k]'(by have := h.rl; omega) = s at hse
    rw [wt_at v hse] at ha; simp at ha; subst ha
    obtain ⟨n1, n2⟩ := hs k s x hse hx
    unfold ind
    by_cases e1 : s.To = v <;> by_cases e2 : s.From = v <;> simp [e1, e2]
    · have : ¬ x < 0 := fun h => n2 ⟨h, e1⟩
      omega
    · have : ¬ 0 < x := fun h => n1 ⟨h, e2⟩
      omega
  have w2 : ∀ (k : Nat) (a x : Int), (wp n v)[k]? = some a → ports[k]? = some x → 0 ≤ a * x := by
    intro k a x ha hx
    have hkl := (List.getElem?_eq_some_iff.1 hx).1
    have hse : n.Ports[k]? = some (n.Ports[k]'(by have := h.pl; omega)) := List.getElem?_eq_getElem _
    generalize n.Ports[k]'(by have := h.pl; omega) = s at hse
    rw [wp_at v hse] at ha; simp at ha; subst ha
    unfold ind
    by_cases e1 : s.Node = v
    · have := hp k s x hse e1 hx
      simp [e1]; exact this
    · simp [e1]
  rcases hc with ⟨i, p, x, h1, h2, h3, h4⟩ | ⟨k, s, r, h1, h2, h3, h4⟩
  · have := dot_pos w2 (wp_at v h1) h3 (by rw [h2, ind_self]; omega)
    have := dot_nonneg w1
    omega
  · have hpos : 0 < (ind s.To v - ind s.From v) * r := by
      rcases h4 with ⟨h5, h6⟩ | ⟨h5, h6⟩
      · rw [h6, ind_self, ind_ne (by omega)]; omega
      · rw [h6, ind_self, ind_ne (by omega)]; omega
    have := dot_pos w1 (wt_at v h1) h2 hpos
    have := dot_nonneg w2
    omega

/-- A hop from a node to another one, along the flow. -/
def HopIs (n : Network) (rates : List Int) (a : Int) (h : Hop) (b : Int) : Prop :=
  ∃ (k : Nat) (s : Segment) (r : Int), h.Segment = (k : Int) ∧ n.Segments[k]? = some s ∧ rates[k]? = some r ∧ (h.Back = false ∧ 0 < r ∧ s.From = a ∧ s.To = b ∨ h.Back = true ∧ r < 0 ∧ s.To = a ∧ s.From = b)

def amt (rates : List Int) (h : Hop) : Int := max (rates.getD h.Segment.toNat 0) (-rates.getD h.Segment.toNat 0)

structure WayIs (n : Network) (rates : List Int) (hops : List Hop) (nd : Nat → Int) : Prop where
  hop : ∀ (j : Nat) (h : Hop), hops[j]? = some h → HopIs n rates (nd j) h (nd (j + 1))

theorem amt_at {rates : List Int} {h : Hop} {k : Nat} {r : Int} (h1 : h.Segment = (k : Int)) (h2 : rates[k]? = some r) : amt rates h = max r (-r) := by
  unfold amt
  rw [h1, List.getD_eq_getElem?_getD, Int.toNat_natCast, h2]; rfl

theorem WayIs.snoc {n : Network} {rates : List Int} {hops : List Hop} {nd : Nat → Int} (w : WayIs n rates hops nd) {h : Hop} {t : Int} (hh : HopIs n rates (nd hops.length) h t) :
    WayIs n rates (hops ++ [h]) (fun i => if i ≤ hops.length then nd i else t) := by
  refine ⟨fun j h' hj => ?_⟩
  rw [List.getElem?_append] at hj
  split at hj
  · rename_i hjl
    have := w.hop j h' hj
    rw [if_pos (by omega), if_pos (by omega)]; exact this
  · have hb := (List.getElem?_eq_some_iff.1 hj).1
    simp at hb
    have : j = hops.length := by omega
    subst this
    simp at hj; subst hj
    rw [if_pos (by omega), if_neg (by omega)]; exact hh

theorem HopIs.lt {n : Network} {up : Bool} {rates ports : List Int} (h : Res n up rates ports) {a b : Int} {x : Hop} (hx : HopIs n rates a x b) : Lt up a b := by
  obtain ⟨k, s, r, h1, h2, h3, h4⟩ := hx
  have := h.rng k r s h3 h2
  rcases h4 with ⟨_, h5, rfl, rfl⟩ | ⟨_, h5, rfl, rfl⟩
  · exact this.2.2.1 h5
  · exact this.2.2.2 h5

theorem WayIs.mono {n : Network} {up : Bool} {rates ports : List Int} (h : Res n up rates ports) {hops : List Hop} {nd : Nat → Int} (w : WayIs n rates hops nd) : ∀ (j i : Nat), i < j → j ≤ hops.length → Lt up (nd i) (nd j) := by
  intro j
  induction j with
  | zero => intro i hi; omega
  | succ j ih =>
    intro i hi hj
    have hl := (w.hop j hops[j] (List.getElem?_eq_getElem (by omega))).lt h
    by_cases hij : i = j
    · subst hij; exact hl
    · exact (ih i (by omega) (by omega)).trans hl

/-- How far it can still go from a node. -/
def far (n : Network) (up : Bool) (v : Int) : Nat := if up = true then n.Nodes.length - v.toNat else v.toNat + 1

theorem far_lt {n : Network} {up : Bool} {a b : Int} (ha : 0 ≤ a ∧ a < (n.Nodes.length : Int)) (hb : 0 ≤ b ∧ b < (n.Nodes.length : Int)) (h : Lt up a b) : far n up b < far n up a := by
  unfold Lt at h
  unfold far
  split at h <;> rename_i hu <;> simp only [hu, if_true, if_false] <;> first | omega | (simp; omega)

/-- What the walk from a port finds. -/
structure Walk (n : Network) (up : Bool) (rates ports : List Int) (x0 s0 : Int) (hops : List Hop) (rate t : Int) : Prop where
  way : ∃ nd, WayIs n rates hops nd ∧ nd 0 = s0 ∧ nd hops.length = t
  at_ : 0 ≤ t ∧ t < (n.Nodes.length : Int)
  len : hops.length + far n up t ≤ n.Nodes.length
  rt : 1 ≤ rate ∧ rate ≤ x0
  most : ∀ h, h ∈ hops → rate ≤ amt rates h
  tight : rate = x0 ∨ ∃ h, h ∈ hops ∧ rate = amt rates h
  comes : Comes n rates ports t

theorem walk_ok {n : Network} (hn : NetOk n) {up : Bool} {rates ports : List Int} (h : Res n up rates ports) {i0 : Nat} {p0 : Port} {x0 : Int} (hp0 : n.Ports[i0]? = some p0) (hx0 : ports[i0]? = some x0) (hpos : 0 < x0) :
    Ok (loopN (L.paths_divider_follow.B4 ⟨n, rates, ports⟩) lots ([], x0, p0.Node)) fun d => ∃ (kk : Nat) (p : Port) (y rate : Int), d.1 = (kk : Int) ∧ n.Ports[kk]? = some p ∧ ports[kk]? = some y ∧ y < 0 ∧ Walk n up rates ports x0 p0.Node d.2.1 rate p.Node ∧ d.2.2 = min rate (-y) := by
  have hnn := hn.nodes; have hsn := hn.segs1
  have hxr := h.prt i0 x0 hx0
  have hpn := (hn.ports i0 p0 hp0).node
  refine .loop (fun st : List Hop × Int × Int => Walk n up rates ports x0 p0.Node st.1 st.2.1 st.2.2) (fun st => far n up st.2.2) ⟨⟨fun _ => p0.Node, ⟨by simp⟩, rfl, rfl⟩, hpn, ?_, by dsimp only; omega, by simp, .inl rfl, .inl ⟨i0, p0, x0, hp0, rfl, hx0, hpos⟩⟩ ?_ ?_
  · dsimp only [List.length_nil]
    unfold far; split <;> omega
  · dsimp only
    unfold far; split <;> omega
  rintro ⟨hops, rate, at_⟩ w
  dsimp only at w
  obtain ⟨nd, w1, w2, w3⟩ := w.way
  have hlen := w.len
  have hrate := w.rt
  have hat := w.at_
  unfold L.paths_divider_follow.B4
  refine .bind' (.forL (fun k _ => ∀ (i : Nat) (p : Port) (x : Int), i < k → n.Ports[i]? = some p → p.Node = at_ → ports[i]? = some x → 0 ≤ x)
    (fun d : Int × List Hop × Int => ∃ (kk : Nat) (p : Port) (y : Int), d.1 = (kk : Int) ∧ n.Ports[kk]? = some p ∧ ports[kk]? = some y ∧ y < 0 ∧ p.Node = at_ ∧ d.2.1 = hops ∧ d.2.2 = min rate (-y)) (fun i _ _ h => absurd h (Nat.not_lt_zero _)) ?_ ?_ ?_)
  · intro k p _ hp hi
    dsimp only at hp
    have hkl := (List.getElem?_eq_some_iff.1 hp).1
    have hx : ports[k]? = some (ports[k]'(by have := h.pl; omega)) := List.getElem?_eq_getElem _
    generalize ports[k]'(by have := h.pl; omega) = x at hx
    have hxr := h.prt k x hx
    have no : (p.Node = at_ → 0 ≤ x) → Ok (L.paths_divider_follow.J11 ⟨n, rates, ports⟩ (hops, rate, at_) k false) (Sum.elim (fun _ : Unit => ∀ (i : Nat) (p : Port) (x : Int), i < k + 1 → n.Ports[i]? = some p → p.Node = at_ → ports[i]? = some x → 0 ≤ x)
        fun d : Int × List Hop × Int => ∃ (kk : Nat) (p : Port) (y : Int), d.1 = (kk : Int) ∧ n.Ports[kk]? = some p ∧ ports[kk]? = some y ∧ y < 0 ∧ p.Node = at_ ∧ d.2.1 = hops ∧ d.2.2 = min rate (-y)) := by
      intro hno
      unfold L.paths_divider_follow.J11
      refine .pure fun i q y hik hq hqn hy => ?_
      by_cases hi' : i = k
      · subst hi'
        rw [hp] at hq; simp at hq; subst hq
        rw [hx] at hy; simp at hy; subst hy
        exact hno hqn
      · exact hi i q y (by omega) hq hqn hy
    unfold L.paths_divider_follow.B10
    refine Ok.iteE (fun he => .bind' (.eq (ix_nat hx) ?_)) fun he => no fun h => absurd h he
    dsimp only
    by_cases hneg : x < 0
    · simp only [hneg, decide_true]
      unfold L.paths_divider_follow.J11
      refine .bind' (.eq (ix_nat hx) (.pure ⟨k, p, x, rfl, hp, hx, hneg, he, rfl, ?_⟩))
      dsimp only
      rw [wr_id (by omega), Int.zero_sub]
    · simp only [hneg, decide_false]
      exact no fun _ => by omega
  · intro _ hnone
    dsimp only at hnone
    simp only [Sum.elim_inl]
    unfold L.paths_divider_follow.J5
    refine .bind' (.forL (fun k _ => ∀ (i : Nat) (s : Segment) (r : Int), i < k → n.Segments[i]? = some s → rates[i]? = some r → ¬ (0 < r ∧ s.From = at_) ∧ ¬ (r < 0 ∧ s.To = at_))
      (fun d : List Hop × Int × Int => ∃ (hp : Hop), HopIs n rates at_ hp d.2.2 ∧ d.1 = hops ++ [hp] ∧ d.2.1 = min rate (amt rates hp)) (fun i _ _ h => absurd h (Nat.not_lt_zero _)) ?_ ?_ ?_)
    · intro k s _ hs hi
      dsimp only at hs
      have hkl := (List.getElem?_eq_some_iff.1 hs).1
      have hr : rates[k]? = some (rates[k]'(by have := h.rl; omega)) := List.getElem?_eq_getElem _
      generalize rates[k]'(by have := h.rl; omega) = r at hr
      have hrr := h.rng k r s hr hs
      unfold L.paths_divider_follow.B7 L.paths_divider_follow.J8 L.paths_divider_follow.J9
      refine .bind' (.eq (ix_nat hr) (Ok.iteB (fun hb => .bind' (.app (by simp; omega) (.pure ?_))) fun hb1 => Ok.iteB (fun hb => .bind' (.app (by simp; omega) (.pure ?_))) fun hb2 => .pure fun i s' r' hik hs' hr' => ?_))
      · simp at hb
        refine ⟨⟨(k : Int), false⟩, ⟨k, s, r, rfl, hs, hr, .inl ⟨rfl, hb.1, hb.2, rfl⟩⟩, rfl, ?_⟩
        rw [amt_at (k := k) rfl hr]
        dsimp only
        rw [show max r (-r) = r by omega]
      · simp at hb
        refine ⟨⟨(k : Int), true⟩, ⟨k, s, r, rfl, hs, hr, .inr ⟨rfl, hb.1, hb.2, rfl⟩⟩, rfl, ?_⟩
        rw [amt_at (k := k) rfl hr]
        dsimp only
        rw [wr_id (by omega), show max r (-r) = 0 - r by omega]
      · by_cases hi' : i = k
        · subst hi'
          rw [hs] at hs'; simp at hs'; subst hs'
          rw [hr] at hr'; simp at hr'; subst hr'
          simp at hb1 hb2
          exact ⟨fun h => hb1 h.1 h.2, fun h => hb2 h.1 h.2⟩
        · exact hi i s' r' (by omega) hs' hr'
    · intro _ hno
      exact (leaves h w.comes (fun i p x hp => hnone i p x (List.getElem?_eq_some_iff.1 hp).1 hp) fun k s r hs => hno k s r (List.getElem?_eq_some_iff.1 hs).1 hs).elim
    · rintro ⟨hops', rate', to'⟩ ⟨hp, hh, e1, e2⟩
      dsimp only at hh e1 e2
      subst e1; subst e2
      have hh' := hh
      have hlt := hh.lt h
      obtain ⟨k, s, r, q1, q2, q3, q4⟩ := hh
      have hse := (hn.segs k s q2).ends
      have hto : 0 ≤ to' ∧ to' < (n.Nodes.length : Int) := by rcases q4 with ⟨_, _, _, q⟩ | ⟨_, _, _, q⟩ <;> omega
      have hfar := far_lt hat hto hlt
      have hamt : 1 ≤ amt rates hp := by rw [amt_at q1 q3]; rcases q4 with ⟨_, q, _, _⟩ | ⟨_, q, _, _⟩ <;> omega
      refine .pure ⟨⟨⟨_, w1.snoc (by rw [w3]; exact hh'), by simp [w2], by simp; omega⟩, hto, by simp; omega, by dsimp only; omega, fun x hx => ?_, ?_, .inr ⟨k, s, r, q2, q3, by omega, ?_⟩⟩, hfar⟩
      · rcases List.mem_append.1 hx with hx | hx
        · have := w.most x hx; dsimp only; omega
        · simp at hx; subst hx; dsimp only; omega
      · dsimp only
        by_cases hle : rate ≤ amt rates hp
        · rw [show min rate (amt rates hp) = rate by omega]
          rcases w.tight with ht | ⟨x, hx, ht⟩
          · exact .inl ht
          · exact .inr ⟨x, by simp [hx], ht⟩
        · exact .inr ⟨hp, by simp, by omega⟩
      · rcases q4 with ⟨_, q5, _, q6⟩ | ⟨_, q5, _, q6⟩
        · exact .inl ⟨q5, q6⟩
        · exact .inr ⟨q5, q6⟩
  · rintro ⟨o, hops', rate'⟩ ⟨kk, p, y, e1, e2, e3, e4, e5, e6, e7⟩
    dsimp only at e1 e6 e7
    subst e1; subst e6; subst e7
    exact .pure ⟨kk, p, y, rate, rfl, e2, e3, e4, by rw [e5]; exact w, rfl⟩

end Go.Proofs.Ytndfiddakngjdaa
