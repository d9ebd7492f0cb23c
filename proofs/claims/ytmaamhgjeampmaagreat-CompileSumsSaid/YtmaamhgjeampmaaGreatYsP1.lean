/- Plain proofs. No condition. -/
import Derived.Test.YtmaamhgjeampmaaGreatYsP0
import Derived.Test.YtmaamhgjeampmaaGreatYsD
import Derived.KernelRfl
set_option maxRecDepth 100000
namespace Go.Proofs.YtmaamhgjeampmaaGreat
set_option linter.unusedVariables false
set_option linter.unusedSimpArgs false
open Go.Aw
def Lt (up : Bool) (a b : Int) : Prop := if up = true then a < b else b < a
theorem Lt.ne {up : Bool} {a b : Int} (h : Lt up a b) : a ≠ b := by unfold Lt at h; split at h <;> omega
theorem Lt.trans {up : Bool} {a b c : Int} (h : Lt up a b) (k : Lt up b c) : Lt up a c := by
 cases up <;> simp only [Lt, if_true] at * <;> first | omega | (simp at *; omega)
structure Res (n : Network) (up : Bool) (rates ports : List Int) : Prop where
 rl : rates.length = n.Segments.length
 pl : ports.length = n.Ports.length
 rng : ∀ (k : Nat) (r : Int) (s : Segment), rates[k]? = some r → n.Segments[k]? = some s → -1000 ≤ r ∧ r ≤ 1000 ∧ (0 < r → Lt up s.From s.To) ∧ (r < 0 → Lt up s.To s.From)
 prt : ∀ (k : Nat) (x : Int), ports[k]? = some x → -1000 ≤ x ∧ x ≤ 1000
 bal : ∀ v, dot (wt n v) rates + dot (wp n v) ports = 0
theorem PlanOk.res {n : Network} {p : Plan} (h : PlanOk n p) : ∃ up, Res n up p.Rates p.Ports := by
 rcases h.dir with hd | hd
 ·exact ⟨true, h.rl, h.pl, fun k r s hr hs => ⟨(h.rng k r s hr hs).1, (h.rng k r s hr hs).2.1, (hd k r s hr hs).1, (hd k r s hr hs).2⟩, h.prt, h.bal⟩
 ·exact ⟨false, h.rl, h.pl, fun k r s hr hs => ⟨(h.rng k r s hr hs).1, (h.rng k r s hr hs).2.1, fun h => by have := (hd k r s hr hs).1 h; simpa [Lt] using this, fun h => by have := (hd k r s hr hs).2 h; simpa [Lt] using this⟩, h.prt, h.bal⟩
theorem dot_nonneg : ∀ {w l : List Int}, (∀ (k : Nat) (a x : Int), w[k]? = some a → l[k]? = some x → 0 ≤ a * x) → 0 ≤ dot w l
 | [], _, _ => by simp [dot]
 | _ :: _, [], _ => by simp [dot]
 | a :: w, x :: l, h => by
  have h0 := h 0 a x rfl rfl
  have := dot_nonneg (w := w) (l := l) fun k b y hb hy => h (k + 1) b y (by simpa using hb) (by simpa using hy)
  simp only [dot]; omega
theorem dot_pos : ∀ {w l : List Int} {k : Nat} {a x : Int}, (∀ (k : Nat) (a x : Int), w[k]? = some a → l[k]? = some x → 0 ≤ a * x) → w[k]? = some a → l[k]? = some x → 0 < a * x → 0 < dot w l
 | [], _, k, _, _, _, h, _, _ => by simp at h
 | _ :: _, [], k, _, _, _, _, h, _ => by simp at h
 | a :: w, x :: l, 0, b, y, h, hb, hy, hp => by
  simp at hb hy; subst hb; subst hy
  have := dot_nonneg (w := w) (l := l) fun k b y hb hy => h (k + 1) b y (by simpa using hb) (by simpa using hy)
  simp only [dot]; omega
 | a :: w, x :: l, k + 1, b, y, h, hb, hy, hp => by
  have h0 := h 0 a x rfl rfl
  have := dot_pos (w := w) (l := l) (k := k) (fun k b y hb hy => h (k + 1) b y (by simpa using hb) (by simpa using hy)) (by simpa using hb) (by simpa using hy) hp
  simp only [dot]; omega
theorem wt_at {n : Network} {k : Nat} {s : Segment} (v : Int) (h : n.Segments[k]? = some s) : (wt n v)[k]? = some (ind s.To v - ind s.From v) := by unfold wt; rw [List.getElem?_map, h]; rfl
theorem wp_at {n : Network} {k : Nat} {p : Port} (v : Int) (h : n.Ports[k]? = some p) : (wp n v)[k]? = some (ind p.Node v) := by unfold wp; rw [List.getElem?_map, h]; rfl
def Comes (n : Network) (rates ports : List Int) (v : Int) : Prop :=
 (∃ (i : Nat) (p : Port) (x : Int), n.Ports[i]? = some p ∧ p.Node = v ∧ ports[i]? = some x ∧ 0 < x) ∨
 ∃ (k : Nat) (s : Segment) (r : Int), n.Segments[k]? = some s ∧ rates[k]? = some r ∧ s.From ≠ s.To ∧ (0 < r ∧ s.To = v ∨ r < 0 ∧ s.From = v)
theorem leaves {n : Network} {up : Bool} {rates ports : List Int} {v : Int} (h : Res n up rates ports) (hc : Comes n rates ports v) (hp : ∀ (i : Nat) (p : Port) (x : Int), n.Ports[i]? = some p → p.Node = v → ports[i]? = some x → 0 ≤ x)
  (hs : ∀ (k : Nat) (s : Segment) (r : Int), n.Segments[k]? = some s → rates[k]? = some r → ¬ (0 < r ∧ s.From = v) ∧ ¬ (r < 0 ∧ s.To = v)) : False := by
 have b := h.bal v
 have w1 : ∀ (k : Nat) (a x : Int), (wt n v)[k]? = some a → rates[k]? = some x → 0 ≤ a * x := by
  intro k a x ha hx
  have hkl := (gs hx).1
  have hse : n.Segments[k]? = some (n.Segments[k]'(by have := h.rl; omega)) := gq _
  generalize n.Segments[k]'(by have := h.rl; omega) = s at hse
  rw [wt_at v hse] at ha; simp at ha; subst ha
  obtain ⟨n1, n2⟩ := hs k s x hse hx
  unfold ind
  by_cases e1 : s.To = v <;> by_cases e2 : s.From = v <;> simp [e1, e2]
  ·have : ¬ x < 0 := fun h => n2 ⟨h, e1⟩
   omega
  ·have : ¬ 0 < x := fun h => n1 ⟨h, e2⟩
   omega
 have w2 : ∀ (k : Nat) (a x : Int), (wp n v)[k]? = some a → ports[k]? = some x → 0 ≤ a * x := by
  intro k a x ha hx
  have hkl := (gs hx).1
  have hse : n.Ports[k]? = some (n.Ports[k]'(by have := h.pl; omega)) := gq _
  generalize n.Ports[k]'(by have := h.pl; omega) = s at hse
  rw [wp_at v hse] at ha; simp at ha; subst ha
  unfold ind
  by_cases e1 : s.Node = v
  ·have := hp k s x hse e1 hx
   simp [e1]; exact this
  ·simp [e1]
 rcases hc with ⟨i, p, x, h1, h2, h3, h4⟩ | ⟨k, s, r, h1, h2, h3, h4⟩
 ·have := dot_pos w2 (wp_at v h1) h3 (by rw [h2, ind_self]; omega)
  have := dot_nonneg w1
  omega
 ·have hpos : 0 < (ind s.To v - ind s.From v) * r := by
   rcases h4 with ⟨h5, h6⟩ | ⟨h5, h6⟩
   ·rw [h6, ind_self, ind_ne (by omega)]; omega
   ·rw [h6, ind_self, ind_ne (by omega)]; omega
  have := dot_pos w1 (wt_at v h1) h2 hpos
  have := dot_nonneg w2
  omega
def HopIs (n : Network) (rates : List Int) (a : Int) (h : Hop) (b : Int) : Prop :=
 ∃ (k : Nat) (s : Segment) (r : Int), h.Segment = (k : Int) ∧ n.Segments[k]? = some s ∧ rates[k]? = some r ∧ (h.Back = false ∧ 0 < r ∧ s.From = a ∧ s.To = b ∨ h.Back = true ∧ r < 0 ∧ s.To = a ∧ s.From = b)
def amt (rates : List Int) (h : Hop) : Int := max (rates.getD h.Segment.toNat 0) (-rates.getD h.Segment.toNat 0)
structure WayIs (n : Network) (rates : List Int) (hops : List Hop) (nd : Nat → Int) : Prop where
 hop : ∀ (j : Nat) (h : Hop), hops[j]? = some h → HopIs n rates (nd j) h (nd (j + 1))
theorem amt_at {rates : List Int} {h : Hop} {k : Nat} {r : Int} (h1 : h.Segment = (k : Int)) (h2 : rates[k]? = some r) : amt rates h = max r (-r) := by
 unfold amt
 rw [h1, List.getD_eq_getElem?_getD, Int.toNat_natCast, h2]; rfl
theorem WayIs.snoc {n : Network} {rates : List Int} {hops : List Hop} {nd : Nat → Int} (w : WayIs n rates hops nd) {h : Hop} {t : Int} (hh : HopIs n rates (nd hops.length) h t) :
  WayIs n rates (hops ++ [h]) (fun i => if i ≤ hops.length then nd i else t) := by
 refine ⟨fun j h' hj => ?_⟩
 rw [List.getElem?_append] at hj
 split at hj
 ·rename_i hjl
  have := w.hop j h' hj
  rw [if_pos (by omega), if_pos (by omega)]; exact this
 ·have hb := (gs hj).1
  simp at hb
  have : j = hops.length := by omega
  subst this
  simp at hj; subst hj
  rw [if_pos (by omega), if_neg (by omega)]; exact hh
theorem HopIs.lt {n : Network} {up : Bool} {rates ports : List Int} (h : Res n up rates ports) {a b : Int} {x : Hop} (hx : HopIs n rates a x b) : Lt up a b := by
 obtain ⟨k, s, r, h1, h2, h3, h4⟩ := hx
 have := h.rng k r s h3 h2
 rcases h4 with ⟨_, h5, rfl, rfl⟩ | ⟨_, h5, rfl, rfl⟩
 ·exact this.2.2.1 h5
 ·exact this.2.2.2 h5
theorem WayIs.mono {n : Network} {up : Bool} {rates ports : List Int} (h : Res n up rates ports) {hops : List Hop} {nd : Nat → Int} (w : WayIs n rates hops nd) : ∀ (j i : Nat), i < j → j ≤ hops.length → Lt up (nd i) (nd j) := by
 intro j
 induction j with
 | zero => intro i hi; omega
 | succ j ih =>
  intro i hi hj
  have hl := (w.hop j hops[j] (gq (by omega))).lt h
  by_cases hij : i = j
  ·subst hij; exact hl
  ·exact (ih i (by omega) (by omega)).trans hl
def far (n : Network) (up : Bool) (v : Int) : Nat := if up = true then n.Nodes.length - v.toNat else v.toNat + 1
theorem far_lt {n : Network} {up : Bool} {a b : Int} (ha : 0 ≤ a ∧ a < (n.Nodes.length : Int)) (hb : 0 ≤ b ∧ b < (n.Nodes.length : Int)) (h : Lt up a b) : far n up b < far n up a := by
 unfold Lt at h
 unfold far
 split at h <;> rename_i hu <;> simp only [hu, if_true, if_false] <;> first | omega | (simp; omega)
structure Walk (n : Network) (up : Bool) (rates ports : List Int) (x0 s0 : Int) (hops : List Hop) (rate t : Int) : Prop where
 way : ∃ nd, WayIs n rates hops nd ∧ nd 0 = s0 ∧ nd hops.length = t
 at_ : 0 ≤ t ∧ t < (n.Nodes.length : Int)
 len : hops.length + far n up t ≤ n.Nodes.length
 rt : 1 ≤ rate ∧ rate ≤ x0
 most : ∀ h, h ∈ hops → rate ≤ amt rates h
 tight : rate = x0 ∨ ∃ h, h ∈ hops ∧ rate = amt rates h
 comes : Comes n rates ports t
theorem walk_ok {n : Network} (hn : NetOk n) {up : Bool} {rates ports : List Int} (h : Res n up rates ports) {i0 : Nat} {p0 : Port} {x0 : Int} (hp0 : n.Ports[i0]? = some p0) (hx0 : ports[i0]? = some x0) (hpos : 0 < x0) :
  Ok (loopN (L.zcho.B4 ⟨n, rates, ports⟩) lots ([], x0, p0.Node)) fun d => ∃ (kk : Nat) (p : Port) (y rate : Int), d.1 = (kk : Int) ∧ n.Ports[kk]? = some p ∧ ports[kk]? = some y ∧ y < 0 ∧ Walk n up rates ports x0 p0.Node d.2.1 rate p.Node ∧ d.2.2 = min rate (-y) := by
 have hnn := hn.nodes; have hsn := hn.segs1
 have hxr := h.prt i0 x0 hx0
 have hpn := (hn.ports i0 p0 hp0).node
 refine .loop (fun st : List Hop × Int × Int => Walk n up rates ports x0 p0.Node st.1 st.2.1 st.2.2) (fun st => far n up st.2.2) ⟨⟨fun _ => p0.Node, ⟨by simp⟩, rfl, rfl⟩, hpn, ?_, by dsimp only; omega, by simp, .inl rfl, .inl ⟨i0, p0, x0, hp0, rfl, hx0, hpos⟩⟩ ?_ ?_
 ·dsimp only [List.length_nil]
  unfold far; split <;> omega
 ·dsimp only
  unfold far; split <;> omega
 rintro ⟨hops, rate, at_⟩ w
 dsimp only at w
 obtain ⟨nd, w1, w2, w3⟩ := w.way
 have hlen := w.len
 have hrate := w.rt
 have hat := w.at_
 unfold L.zcho.B4
 refine .bind' (.forL (fun k _ => ∀ (i : Nat) (p : Port) (x : Int), i < k → n.Ports[i]? = some p → p.Node = at_ → ports[i]? = some x → 0 ≤ x)
  (fun d : Int × List Hop × Int => ∃ (kk : Nat) (p : Port) (y : Int), d.1 = (kk : Int) ∧ n.Ports[kk]? = some p ∧ ports[kk]? = some y ∧ y < 0 ∧ p.Node = at_ ∧ d.2.1 = hops ∧ d.2.2 = min rate (-y)) (fun i _ _ h => absurd h (Nat.not_lt_zero _)) ?_ ?_ ?_)
 ·intro k p _ hp hi
  dsimp only at hp
  have hkl := (gs hp).1
  have hx : ports[k]? = some (ports[k]'(by have := h.pl; omega)) := gq _
  generalize ports[k]'(by have := h.pl; omega) = x at hx
  have hxr := h.prt k x hx
  have no : (p.Node = at_ → 0 ≤ x) → Ok (L.zcho.J11 ⟨n, rates, ports⟩ (hops, rate, at_) k false) (Sum.elim (fun _ : Unit => ∀ (i : Nat) (p : Port) (x : Int), i < k + 1 → n.Ports[i]? = some p → p.Node = at_ → ports[i]? = some x → 0 ≤ x)
    fun d : Int × List Hop × Int => ∃ (kk : Nat) (p : Port) (y : Int), d.1 = (kk : Int) ∧ n.Ports[kk]? = some p ∧ ports[kk]? = some y ∧ y < 0 ∧ p.Node = at_ ∧ d.2.1 = hops ∧ d.2.2 = min rate (-y)) := by
   intro hno
   unfold L.zcho.J11
   refine .pure fun i q y hik hq hqn hy => ?_
   by_cases hi' : i = k
   ·subst hi'
    rw [hp] at hq; simp at hq; subst hq
    rw [hx] at hy; simp at hy; subst hy
    exact hno hqn
   ·exact hi i q y (by omega) hq hqn hy
  unfold L.zcho.B10
  refine Ok.iteE (fun he => .bind' (.eq (ix_nat hx) ?_)) fun he => no fun h => absurd h he
  dsimp only
  by_cases hneg : x < 0
  ·simp only [hneg, decide_true]
   unfold L.zcho.J11
   refine .bind' (.eq (ix_nat hx) (.pure ⟨k, p, x, rfl, hp, hx, hneg, he, rfl, ?_⟩))
   dsimp only
   rw [wr_id (by omega), Int.zero_sub]
  ·simp only [hneg, decide_false]
   exact no fun _ => by omega
 ·intro _ hnone
  dsimp only at hnone
  simp only [Sum.elim_inl]
  unfold L.zcho.J5
  refine .bind' (.forL (fun k _ => ∀ (i : Nat) (s : Segment) (r : Int), i < k → n.Segments[i]? = some s → rates[i]? = some r → ¬ (0 < r ∧ s.From = at_) ∧ ¬ (r < 0 ∧ s.To = at_))
   (fun d : List Hop × Int × Int => ∃ (hp : Hop), HopIs n rates at_ hp d.2.2 ∧ d.1 = hops ++ [hp] ∧ d.2.1 = min rate (amt rates hp)) (fun i _ _ h => absurd h (Nat.not_lt_zero _)) ?_ ?_ ?_)
  ·intro k s _ hs hi
   dsimp only at hs
   have hkl := (gs hs).1
   have hr : rates[k]? = some (rates[k]'(by have := h.rl; omega)) := gq _
   generalize rates[k]'(by have := h.rl; omega) = r at hr
   have hrr := h.rng k r s hr hs
   unfold L.zcho.B7 L.zcho.J8 L.zcho.J9
   refine .bind' (.eq (ix_nat hr) (Ok.iteB (fun hb => .bind' (.app (by simp; omega) (.pure ?_))) fun hb1 => Ok.iteB (fun hb => .bind' (.app (by simp; omega) (.pure ?_))) fun hb2 => .pure fun i s' r' hik hs' hr' => ?_))
   ·simp at hb
    refine ⟨⟨(k : Int), false⟩, ⟨k, s, r, rfl, hs, hr, .inl ⟨rfl, hb.1, hb.2, rfl⟩⟩, rfl, ?_⟩
    rw [amt_at (k := k) rfl hr]
    dsimp only
    rw [show max r (-r) = r by omega]
   ·simp at hb
    refine ⟨⟨(k : Int), true⟩, ⟨k, s, r, rfl, hs, hr, .inr ⟨rfl, hb.1, hb.2, rfl⟩⟩, rfl, ?_⟩
    rw [amt_at (k := k) rfl hr]
    dsimp only
    rw [wr_id (by omega), show max r (-r) = 0 - r by omega]
   ·by_cases hi' : i = k
    ·subst hi'
     rw [hs] at hs'; simp at hs'; subst hs'
     rw [hr] at hr'; simp at hr'; subst hr'
     simp at hb1 hb2
     exact ⟨fun h => hb1 h.1 h.2, fun h => hb2 h.1 h.2⟩
    ·exact hi i s' r' (by omega) hs' hr'
  ·intro _ hno
   exact (leaves h w.comes (fun i p x hp => hnone i p x (gs hp).1 hp) fun k s r hs => hno k s r (gs hs).1 hs).elim
  ·rintro ⟨hops', rate', to'⟩ ⟨hp, hh, e1, e2⟩
   dsimp only at hh e1 e2
   subst e1; subst e2
   have hh' := hh
   have hlt := hh.lt h
   obtain ⟨k, s, r, q1, q2, q3, q4⟩ := hh
   have hse := (hn.segs k s q2).ends
   have hto : 0 ≤ to' ∧ to' < (n.Nodes.length : Int) := by rcases q4 with ⟨_, _, _, q⟩ | ⟨_, _, _, q⟩ <;> omega
   have hfar := far_lt hat hto hlt
   have hamt : 1 ≤ amt rates hp := by rw [amt_at q1 q3]; rcases q4 with ⟨_, q, _, _⟩ | ⟨_, q, _, _⟩ <;> omega
   refine .pure ⟨⟨⟨_, w1.snoc (by rw [w3]; exact hh'), by simp [w2], by simp; omega⟩, hto, by simp; omega, by dsimp only; omega, fun x hx => ?_, ?_, .inr ⟨k, s, r, q2, q3, by omega, ?_⟩⟩, hfar⟩
   ·rcases List.mem_append.1 hx with hx | hx
    ·have := w.most x hx; dsimp only; omega
    ·simp at hx; subst hx; dsimp only; omega
   ·dsimp only
    by_cases hle : rate ≤ amt rates hp
    ·rw [show min rate (amt rates hp) = rate by omega]
     rcases w.tight with ht | ⟨x, hx, ht⟩
     ·exact .inl ht
     ·exact .inr ⟨x, by simp [hx], ht⟩
    ·exact .inr ⟨hp, by simp, by omega⟩
   ·rcases q4 with ⟨_, q5, _, q6⟩ | ⟨_, q5, _, q6⟩
    ·exact .inl ⟨q5, q6⟩
    ·exact .inr ⟨q5, q6⟩
 ·rintro ⟨o, hops', rate'⟩ ⟨kk, p, y, e1, e2, e3, e4, e5, e6, e7⟩
  dsimp only at e1 e6 e7
  subst e1; subst e6; subst e7
  exact .pure ⟨kk, p, y, rate, rfl, e2, e3, e4, by rw [e5]; exact w, rfl⟩
def sgn (rate : Int) (h : Hop) : Int := if h.Back = true then -rate else rate
def hsum (rate : Int) (k : Nat) : List Hop → Int
 | [] => 0
 | h :: t => (if h.Segment = (k : Int) then sgn rate h else 0) + hsum rate k t
theorem hsum_append (rate : Int) (k : Nat) : ∀ l m : List Hop, hsum rate k (l ++ m) = hsum rate k l + hsum rate k m
 | [], m => by simp [hsum]
 | h :: l, m => by simp only [List.cons_append, hsum, hsum_append rate k l m]; omega
theorem hsum_take {rate : Int} {k j : Nat} {l : List Hop} {h : Hop} (hj : l[j]? = some h) : hsum rate k (l.take (j + 1)) = hsum rate k (l.take j) + if h.Segment = (k : Int) then sgn rate h else 0 := by
 rw [List.take_add_one, hj, hsum_append]; simp [hsum]
theorem hsum_zero {rate : Int} {k : Nat} : ∀ {l : List Hop}, (∀ h, h ∈ l → h.Segment ≠ (k : Int)) → hsum rate k l = 0
 | [], _ => rfl
 | h :: l, hh => by
  simp only [hsum]
  rw [if_neg (hh h (by simp)), hsum_zero fun x hx => hh x (by simp [hx])]; rfl
theorem hsum_one {rate : Int} {k : Nat} : ∀ {l : List Hop} {i : Nat} {h : Hop}, l[i]? = some h → h.Segment = (k : Int) → (∀ (j : Nat) (x : Hop), j ≠ i → l[j]? = some x → x.Segment ≠ (k : Int)) → hsum rate k l = sgn rate h
 | [], i, h, hi, _, _ => by simp at hi
 | x :: l, 0, h, hi, hk, ho => by
  simp at hi; subst hi
  simp only [hsum]
  rw [if_pos hk, hsum_zero fun y hy => ?_]; omega
  obtain ⟨j, hj⟩ := List.getElem?_of_mem hy
  exact ho (j + 1) y (by omega) (by simpa using hj)
 | x :: l, i + 1, h, hi, hk, ho => by
  simp only [hsum]
  rw [if_neg (ho 0 x (by omega) rfl), hsum_one (i := i) (by simpa using hi) hk fun j y hj hy => ho (j + 1) y (by omega) (by simpa using hy)]; omega
theorem hsum_bnd {rate : Int} (hr : 0 ≤ rate ∧ rate ≤ 1000) (k : Nat) : ∀ l : List Hop, -(1000 * (l.length : Int)) ≤ hsum rate k l ∧ hsum rate k l ≤ 1000 * (l.length : Int)
 | [] => by simp [hsum]
 | h :: l => by
  have := hsum_bnd hr k l
  simp only [hsum, List.length_cons]
  unfold sgn
  split
  ·split <;> omega
  ·omega
theorem signed_eq {h : Hop} {r : Int} (hr : -1000000 ≤ r ∧ r ≤ 1000000) : L.zqxx h r = sgn r h := by
 unfold L.zqxx sgn
 rw [wr_id (by omega), Int.zero_sub]
theorem WayIs.once {n : Network} {up : Bool} {rates ports : List Int} (h : Res n up rates ports) {hops : List Hop} {nd : Nat → Int} (w : WayIs n rates hops nd) {i j : Nat} {x y : Hop} (hx : hops[i]? = some x) (hy : hops[j]? = some y)
  (he : x.Segment = y.Segment) : i = j := by
 have hi := (gs hx).1
 have hj := (gs hy).1
 obtain ⟨k, s, r, e1, e2, e3, e4⟩ := w.hop i x hx
 obtain ⟨k', s', r', f1, f2, f3, f4⟩ := w.hop j y hy
 have : k = k' := by omega
 subst this
 rw [e2] at f2; simp at f2; subst f2
 rw [e3] at f3; simp at f3; subst f3
 have hn : nd i = nd j := by
  rcases e4 with ⟨_, a, b, _⟩ | ⟨_, a, b, _⟩ <;> rcases f4 with ⟨_, c, d, _⟩ | ⟨_, c, d, _⟩ <;> omega
 rcases Nat.lt_trichotomy i j with hlt | he | hlt
 ·exact absurd hn (w.mono h j i hlt (by omega)).ne
 ·exact he
 ·exact absurd hn.symm (w.mono h i j hlt (by omega)).ne
structure Follow (n : Network) (up : Bool) (rates ports : List Int) (i0 : Nat) (x : Path) (d : paths_divider) (o : Nat) (p0 po : Port) (x0 y : Int) (nd : Nat → Int) : Prop where
 net : d.n_ = n
 in_ : x.In = (i0 : Int)
 out : x.Out = (o : Int)
 hp0 : n.Ports[i0]? = some p0
 hpo : n.Ports[o]? = some po
 hx0 : ports[i0]? = some x0 ∧ 0 < x0
 hy : ports[o]? = some y ∧ y < 0
 way : WayIs n rates x.Hops nd
 ends : nd 0 = p0.Node ∧ nd x.Hops.length = po.Node
 len : x.Hops.length ≤ 5
 rt : 1 ≤ x.Rate ∧ x.Rate ≤ x0 ∧ x.Rate ≤ -y
 most : ∀ h, h ∈ x.Hops → x.Rate ≤ amt rates h
 tight : x.Rate = x0 ∨ x.Rate = -y ∨ ∃ h, h ∈ x.Hops ∧ x.Rate = amt rates h
 hports : d.ports = (ports.set i0 (x0 - x.Rate)).set o (y + x.Rate)
 hrates : d.rates.length = rates.length ∧ ∀ (k : Nat) (r : Int), rates[k]? = some r → d.rates[k]? = some (r - hsum x.Rate k x.Hops)
 less : ∀ (k : Nat) (r : Int), rates[k]? = some r → (0 ≤ r → 0 ≤ r - hsum x.Rate k x.Hops ∧ r - hsum x.Rate k x.Hops ≤ r) ∧ (r ≤ 0 → r ≤ r - hsum x.Rate k x.Hops ∧ r - hsum x.Rate k x.Hops ≤ 0)
 res : Res n up d.rates d.ports
theorem follow_ok {n : Network} (hn : NetOk n) {up : Bool} {rates ports : List Int} (h : Res n up rates ports) {i0 : Nat} {x0 : Int} (hx0 : ports[i0]? = some x0) (hpos : 0 < x0) :
  Ok (L.zcho ⟨n, rates, ports⟩ (i0 : Int)) fun r => ∃ o p0 po y nd, Follow n up rates ports i0 r.1 r.2 o p0 po x0 y nd := by
 have hil := (gs hx0).1
 have hp0 : n.Ports[i0]? = some (n.Ports[i0]'(by have := h.pl; omega)) := gq _
 generalize n.Ports[i0]'(by have := h.pl; omega) = p0 at hp0
 have hxr := h.prt i0 x0 hx0
 unfold L.zcho
 refine .bind' (.eq (ix_nat hx0) (.bind' (.eq (ix_nat hp0) (.bind (walk_ok hn h hp0 hx0 hpos) ?_))))
 rintro ⟨_, hops, rt⟩ ⟨o, po, y, rate, rfl, hpo, hy, hyn, w, e7⟩
 dsimp only at w e7 ⊢
 obtain ⟨nd, w1, w2, w3⟩ := w.way
 have hrate := w.rt
 have hyr := h.prt o y hy
 have hrt : 1 ≤ rt ∧ rt ≤ x0 ∧ rt ≤ -y ∧ rt ≤ rate := by omega
 have hne : i0 ≠ o := by rintro rfl; rw [hx0] at hy; simp at hy; omega
 unfold L.zcho.J1
 dsimp only
 have hset : (ports.set i0 (wr (x0 - rt)))[o]? = some y := by rw [List.getElem?_set_ne hne]; exact hy
 refine .bind' (.eq (ix_nat hset) ?_)
 have hlen : hops.length ≤ 5 := by
  have hl := w.len; have := hn.nodes; have hat := w.at_
  unfold far at hl; split at hl <;> omega
 have hmost : ∀ h, h ∈ hops → rt ≤ amt rates h := fun x hx => by have := w.most x hx; omega
 have key : ∀ (k : Nat) (r : Int), rates[k]? = some r → hsum rt k hops = 0 ∨ (0 < r ∧ hsum rt k hops = rt ∧ rt ≤ r) ∨ (r < 0 ∧ hsum rt k hops = -rt ∧ rt ≤ -r) := by
  intro k r hr
  by_cases hex : ∃ (i : Nat) (x : Hop), hops[i]? = some x ∧ x.Segment = (k : Int)
  ·obtain ⟨i, x, hx, hk⟩ := hex
   rw [hsum_one hx hk fun j y hj hy he => hj (w1.once h hy hx (he.trans hk.symm))]
   have hm := hmost x (mg hx)
   rw [amt_at hk hr] at hm
   obtain ⟨k', s, r', e1, e2, e3, e4⟩ := w1.hop i x hx
   have : k = k' := by omega
   subst this
   rw [hr] at e3; simp at e3; subst e3
   unfold sgn
   rcases e4 with ⟨b, q, _, _⟩ | ⟨b, q, _, _⟩
   ·exact .inr (.inl ⟨q, by rw [b]; rfl, by omega⟩)
   ·exact .inr (.inr ⟨q, by rw [b]; rfl, by omega⟩)
  ·exact .inl (hsum_zero fun x hx hk => by obtain ⟨i, hi⟩ := List.getElem?_of_mem hx; exact hex ⟨i, x, hi, hk⟩)
 refine .bind (Q := fun st => st.length = rates.length ∧ (∀ (k : Nat) (r : Int), rates[k]? = some r → st[k]? = some (r - hsum rt k hops)) ∧ ∀ v, dot (wt n v) st = dot (wt n v) rates - (rt * ind (nd hops.length) v - rt * ind (nd 0) v)) ?_ ?_
 ·refine .forJ (fun j st => st.length = rates.length ∧ (∀ (k : Nat) (r : Int), rates[k]? = some r → st[k]? = some (r - hsum rt k (hops.take j))) ∧ ∀ v, dot (wt n v) st = dot (wt n v) rates - (rt * ind (nd j) v - rt * ind (nd 0) v)) ⟨rfl, fun k r hr => by simp [hsum, hr], fun v => by omega⟩ ?_ ?_
  ·rintro j st hj ⟨i1, i2, i3⟩
   have hx : hops[j]? = some hops[j] := gq hj
   generalize hops[j] = x at hx
   obtain ⟨k, s, r, e1, e2, e3, e4⟩ := w1.hop j x hx
   have hst := i2 k r e3
   have hrr := h.rng k r s e3 e2
   have hb := hsum_bnd (rate := rt) (by omega) k (hops.take j)
   rw [List.length_take] at hb
   unfold L.zcho.B3
   refine .bind' (.eq (ix_nat hx) ?_)
   dsimp only
   rw [e1]
   refine .bind' (.eq (ix_nat hst) (.pure ?_))
   dsimp only
   rw [signed_eq (by omega)]
   have hsg : -1000 ≤ sgn rt x ∧ sgn rt x ≤ 1000 := by unfold sgn; split <;> omega
   rw [wr_id (by omega)]
   refine ⟨by simp [i1], fun k' r' hr' => ?_, fun v => ?_⟩
   ·rw [hsum_take hx, get_set]
    have hkl := (gs hst).1
    by_cases hkk : k = k'
    ·subst hkk
     rw [hr'] at e3; simp at e3; subst e3
     rw [if_pos ⟨rfl, hkl⟩, if_pos e1]; congr 1; omega
    ·rw [if_neg (fun h => hkk h.1), if_neg (by omega), i2 k' r' hr']; simp
   ·rw [dot_set (wt_at v e2) hst, i3 v]
    have : (ind s.To v - ind s.From v) * (r - hsum rt k (hops.take j) - sgn rt x - (r - hsum rt k (hops.take j))) = -(rt * ind (nd (j + 1)) v - rt * ind (nd j) v) := by
     rw [show r - hsum rt k (hops.take j) - sgn rt x - (r - hsum rt k (hops.take j)) = -sgn rt x by omega]
     unfold sgn
     rcases e4 with ⟨b, _, q1, q2⟩ | ⟨b, _, q1, q2⟩
     ·rw [b, q1, q2, if_neg (by simp), Int.sub_mul, Int.mul_neg, Int.mul_neg, Int.mul_comm, Int.mul_comm (ind (nd j) v)]; omega
     ·rw [b, q1, q2, if_pos rfl, Int.neg_neg, Int.sub_mul, Int.mul_comm, Int.mul_comm (ind (nd (j + 1)) v)]; omega
    rw [this]; omega
  ·rintro st ⟨i1, i2, i3⟩
   rw [List.take_length] at i2
   exact ⟨i1, i2, i3⟩
 rintro st ⟨i1, i2, i3⟩
 unfold L.zcho.J2
 dsimp only
 have e1 : wr (x0 - rt) = x0 - rt := wr_id (by omega)
 have e2 : wr (y + rt) = y + rt := wr_id (by omega)
 rw [e1] at hset
 rw [e1, e2]
 have less : ∀ (k : Nat) (r : Int), rates[k]? = some r → (0 ≤ r → 0 ≤ r - hsum rt k hops ∧ r - hsum rt k hops ≤ r) ∧ (r ≤ 0 → r ≤ r - hsum rt k hops ∧ r - hsum rt k hops ≤ 0) := fun k r hr => by
  have := key k r hr; omega
 refine .pure ⟨o, p0, po, y, nd, rfl, rfl, rfl, hp0, hpo, ⟨hx0, hpos⟩, ⟨hy, hyn⟩, w1, ⟨w2, w3⟩, hlen, ⟨hrt.1, hrt.2.1, hrt.2.2.1⟩, hmost, ?_, rfl, ⟨i1, i2⟩, less, ⟨by dsimp only; rw [i1]; exact h.rl, by simp [h.pl], fun k r s hr hs => ?_, fun k x hk => ?_, fun v => ?_⟩⟩
 ·dsimp only
  by_cases hc : rate ≤ -y
  ·have : rt = rate := by omega
   rcases w.tight with ht | ⟨x, hx, ht⟩
   ·exact .inl (by omega)
   ·exact .inr (.inr ⟨x, hx, by omega⟩)
  ·exact .inr (.inl (by omega))
 ·dsimp only at hr
  have hkl := (gs hr).1
  have hr0 : rates[k]? = some (rates[k]'(by omega)) := gq _
  generalize rates[k]'(by omega) = r0 at hr0
  have := i2 k r0 hr0
  rw [hr] at this; simp at this
  have hl := less k r0 hr0
  have hrr := h.rng k r0 s hr0 hs
  refine ⟨by omega, by omega, fun hp => hrr.2.2.1 (by omega), fun hp => hrr.2.2.2 (by omega)⟩
 ·dsimp only at hk
  rw [get_set] at hk
  split at hk
  ·simp at hk; omega
  ·rw [get_set] at hk
   split at hk
   ·simp at hk; omega
   ·exact h.prt k x hk
 ·dsimp only
  rw [i3 v, dot_set (wp_at v hpo) hset, dot_set (wp_at v hp0) hx0, w2, w3]
  have := h.bal v
  have a1 : ind p0.Node v * (x0 - rt - x0) = -(rt * ind p0.Node v) := by rw [show x0 - rt - x0 = -rt by omega, Int.mul_neg, Int.mul_comm]
  have a2 : ind po.Node v * (y + rt - y) = rt * ind po.Node v := by rw [show y + rt - y = rt by omega, Int.mul_comm]
  rw [a1, a2]; omega
def nz : List Int → Nat
 | [] => 0
 | x :: l => (if x = 0 then 0 else 1) + nz l
theorem nz_len : ∀ l : List Int, nz l ≤ l.length
 | [] => Nat.le_refl _
 | x :: l => by have := nz_len l; simp only [nz, List.length_cons]; split <;> omega
theorem nz_le : ∀ {l m : List Int}, l.length = m.length → (∀ k : Nat, l[k]? = some 0 → m[k]? = some 0) → nz m ≤ nz l
 | [], [], _, _ => Nat.le_refl _
 | [], _ :: _, h, _ => by simp at h
 | _ :: _, [], h, _ => by simp at h
 | x :: l, y :: m, hl, h => by
  have h0 := h 0
  have := nz_le (l := l) (m := m) (by simpa using hl) fun k hk => by have := h (k + 1) (by simpa using hk); simpa using this
  simp at h0
  simp only [nz]
  by_cases hx : x = 0
  ·rw [if_pos hx, if_pos (h0 hx)]; omega
  ·rw [if_neg hx]; split <;> omega
theorem nz_lt : ∀ {l m : List Int} {i : Nat} {x : Int}, l.length = m.length → (∀ k : Nat, l[k]? = some 0 → m[k]? = some 0) → l[i]? = some x → x ≠ 0 → m[i]? = some 0 → nz m < nz l
 | [], _, i, _, _, _, h, _, _ => by simp at h
 | _ :: _, [], _, _, h, _, _, _, _ => by simp at h
 | a :: l, b :: m, 0, x, hl, h, hx, hn, hy => by
  have := nz_le (l := l) (m := m) (by simpa using hl) fun k hk => by have := h (k + 1) (by simpa using hk); simpa using this
  simp at hx hy
  simp only [nz]
  rw [if_pos hy, if_neg (show ¬ a = 0 by omega)]; omega
 | a :: l, b :: m, i + 1, x, hl, h, hx, hn, hy => by
  have h0 := h 0
  have := nz_lt (l := l) (m := m) (i := i) (by simpa using hl) (fun k hk => by have := h (k + 1) (by simpa using hk); simpa using this) (by simpa using hx) hn (by simpa using hy)
  simp at h0
  simp only [nz]
  by_cases ha : a = 0
  ·rw [if_pos ha, if_pos (h0 ha)]; omega
  ·rw [if_neg ha]; split <;> omega
def segSum (k : Nat) : List Path → Int
 | [] => 0
 | x :: l => hsum x.Rate k x.Hops + segSum k l
def portOf (i : Nat) (x : Path) : Int := (if x.In = (i : Int) then x.Rate else 0) - (if x.Out = (i : Int) then x.Rate else 0)
def portSum (i : Nat) : List Path → Int
 | [] => 0
 | x :: l => portOf i x + portSum i l
theorem segSum_append (k : Nat) : ∀ l m : List Path, segSum k (l ++ m) = segSum k l + segSum k m
 | [], m => by simp [segSum]
 | x :: l, m => by simp only [List.cons_append, segSum, segSum_append k l m]; omega
theorem portSum_append (i : Nat) : ∀ l m : List Path, portSum i (l ++ m) = portSum i l + portSum i m
 | [], m => by simp [portSum]
 | x :: l, m => by simp only [List.cons_append, portSum, portSum_append i l m]; omega
def PathOk (n : Network) (p : Plan) (x : Path) : Prop := ∃ (i o : Nat) (p0 po : Port) (y0 y1 : Int) (nd : Nat → Int), x.In = (i : Int) ∧ x.Out = (o : Int) ∧ n.Ports[i]? = some p0 ∧ n.Ports[o]? = some po ∧ p.Ports[i]? = some y0 ∧ 0 < y0 ∧ p.Ports[o]? = some y1 ∧ y1 < 0 ∧
 WayIs n p.Rates x.Hops nd ∧ nd 0 = p0.Node ∧ nd x.Hops.length = po.Node ∧ x.Hops.length ≤ 5 ∧ 1 ≤ x.Rate ∧ x.Rate ≤ 1000
def Dead (rates ports : List Int) (x : Path) : Prop := (∃ i : Nat, x.In = (i : Int) ∧ ports[i]? = some 0) ∨ (∃ o : Nat, x.Out = (o : Int) ∧ ports[o]? = some 0) ∨ ∃ (h : Hop) (k : Nat), h ∈ x.Hops ∧ h.Segment = (k : Int) ∧ rates[k]? = some 0
structure DInv (n : Network) (up : Bool) (p : Plan) (rates ports : List Int) (out : List Path) : Prop where
 res : Res n up rates ports
 shape : ∀ (k : Nat) (r r0 : Int), rates[k]? = some r → p.Rates[k]? = some r0 → (0 ≤ r0 → 0 ≤ r ∧ r ≤ r0) ∧ (r0 ≤ 0 → r0 ≤ r ∧ r ≤ 0)
 pshape : ∀ (k : Nat) (r r0 : Int), ports[k]? = some r → p.Ports[k]? = some r0 → (0 ≤ r0 → 0 ≤ r ∧ r ≤ r0) ∧ (r0 ≤ 0 → r0 ≤ r ∧ r ≤ 0)
 sumR : ∀ (k : Nat) (r r0 : Int), rates[k]? = some r → p.Rates[k]? = some r0 → r = r0 - segSum k out
 sumP : ∀ (k : Nat) (r r0 : Int), ports[k]? = some r → p.Ports[k]? = some r0 → r = r0 - portSum k out
 paths : ∀ x, x ∈ out → PathOk n p x
 dead : ∀ x, x ∈ out → Dead rates ports x
 apart : ∀ (i j : Nat) (x y : Path), i < j → out[i]? = some x → out[j]? = some y → ¬ (x.In = y.In ∧ x.Out = y.Out ∧ x.Hops = y.Hops)
 count : out.length + nz rates + nz ports ≤ nz p.Rates + nz p.Ports
theorem DInv.start {n : Network} {up : Bool} {p : Plan} (h : Res n up p.Rates p.Ports) : DInv n up p p.Rates p.Ports [] :=
 ⟨h, fun k r r0 h1 h2 => by rw [h1] at h2; simp at h2; omega, fun k r r0 h1 h2 => by rw [h1] at h2; simp at h2; omega, fun k r r0 h1 h2 => by rw [h1] at h2; simp at h2; simp [segSum]; omega, fun k r r0 h1 h2 => by rw [h1] at h2; simp at h2; simp [portSum]; omega,
  by simp, by simp, by simp, by simp⟩
theorem DInv.follow {n : Network} {up : Bool} {p : Plan} (hp : Res n up p.Rates p.Ports) {rates ports : List Int} {out : List Path} (h : DInv n up p rates ports out) {i0 o : Nat} {x : Path} {d : paths_divider} {p0 po : Port} {x0 y : Int} {nd : Nat → Int}
  (f : Follow n up rates ports i0 x d o p0 po x0 y nd) : DInv n up p d.rates d.ports (out ++ [x]) ∧ nz d.rates + nz d.ports < nz rates + nz ports ∧ ∀ (j : Nat) (z : Int), d.ports[j]? = some z → ports[j]? = some z ∨ z ≤ 0 ∨ j = i0 := by
 obtain ⟨hx0, hx0p⟩ := f.hx0
 obtain ⟨hy, hyn⟩ := f.hy
 have hrt := f.rt
 have hne : i0 ≠ o := by rintro rfl; rw [hx0] at hy; simp at hy; omega
 have hil := (gs hx0).1
 have hol := (gs hy).1
 obtain ⟨rl, rr⟩ := f.hrates
 have hpl : d.ports.length = ports.length := by rw [f.hports]; simp
 have hport : ∀ (j : Nat) (z : Int), d.ports[j]? = some z → (j = i0 ∧ z = x0 - x.Rate) ∨ (j = o ∧ z = y + x.Rate) ∨ (j ≠ i0 ∧ j ≠ o ∧ ports[j]? = some z) := by
  intro j z hz
  rw [f.hports, get_set] at hz
  split at hz
  ·rename_i hh; simp at hz; exact .inr (.inl ⟨hh.1.symm, hz.symm⟩)
  ·rename_i hh
   rw [get_set] at hz
   have hjo : j ≠ o := fun he => hh ⟨he.symm, by simp; omega⟩
   split at hz
   ·rename_i hg; simp at hz; exact .inl ⟨hg.1.symm, hz.symm⟩
   ·rename_i hg
    have hji : j ≠ i0 := fun he => hg ⟨he.symm, by omega⟩
    exact .inr (.inr ⟨hji, hjo, hz⟩)
 have hin : d.ports[i0]? = some (x0 - x.Rate) := by rw [f.hports, get_set, if_neg (fun h => hne h.1.symm), get_set, if_pos ⟨rfl, hil⟩]
 have hou : d.ports[o]? = some (y + x.Rate) := by rw [f.hports, get_set, if_pos ⟨rfl, by simpa using hol⟩]
 have back : ∀ (k : Nat) (r' : Int), d.rates[k]? = some r' → ∃ r, rates[k]? = some r ∧ r' = r - hsum x.Rate k x.Hops := by
  intro k r' hr'
  have hkl := (gs hr').1
  have hr : rates[k]? = some (rates[k]'(by omega)) := gq _
  have := rr k _ hr
  rw [hr'] at this; simp at this
  exact ⟨_, hr, this⟩
 have zr : ∀ k : Nat, rates[k]? = some 0 → d.rates[k]? = some 0 := by
  intro k hk
  have h1 := rr k 0 hk
  have h2 := f.less k 0 hk
  rw [h1]; congr 1; omega
 have zp : ∀ k : Nat, ports[k]? = some 0 → d.ports[k]? = some 0 := by
  intro k hk
  have hki : k ≠ i0 := by rintro rfl; rw [hx0] at hk; simp at hk; omega
  have hko : k ≠ o := by rintro rfl; rw [hy] at hk; simp at hk; omega
  rw [f.hports, List.getElem?_set_ne (Ne.symm hko), List.getElem?_set_ne (Ne.symm hki)]; exact hk
 have hdead : Dead d.rates d.ports x := by
  rcases f.tight with ht | ht | ⟨hp, hm, ht⟩
  ·exact .inl ⟨i0, f.in_, by rw [hin]; congr 1; omega⟩
  ·exact .inr (.inl ⟨o, f.out, by rw [hou]; congr 1; omega⟩)
  ·obtain ⟨j, hj⟩ := List.getElem?_of_mem hm
   obtain ⟨k, s, r, e1, e2, e3, e4⟩ := f.way.hop j hp hj
   refine .inr (.inr ⟨hp, k, hm, e1, ?_⟩)
   have h1 := rr k r e3
   rw [h1]
   have hs := hsum_one (rate := x.Rate) hj e1 fun j' y' hj' hy' he => hj' (f.way.once h.res hy' hj (he.trans e1.symm))
   rw [hs]
   rw [amt_at e1 e3] at ht
   unfold sgn
   congr 1
   rcases e4 with ⟨b, q, _, _⟩ | ⟨b, q, _, _⟩
   ·rw [b, if_neg (by simp)]; omega
   ·rw [b, if_pos rfl]; omega
 have keep : ∀ z, Dead rates ports z → Dead d.rates d.ports z := by
  rintro z (⟨i, h1, h2⟩ | ⟨i, h1, h2⟩ | ⟨hp, k, h1, h2, h3⟩)
  ·exact .inl ⟨i, h1, zp i h2⟩
  ·exact .inr (.inl ⟨i, h1, zp i h2⟩)
  ·exact .inr (.inr ⟨hp, k, h1, h2, zr k h3⟩)
 have fresh : ∀ z : Path, z.In = x.In → z.Out = x.Out → z.Hops = x.Hops → ¬ Dead rates ports z := by
  rintro z z1 z2 z3 (⟨i, h1, h2⟩ | ⟨i, h1, h2⟩ | ⟨hp, k, h1, h2, h3⟩)
  ·have : i = i0 := by have := f.in_; omega
   subst this; rw [hx0] at h2; simp at h2; omega
  ·have : i = o := by have := f.out; omega
   subst this; rw [hy] at h2; simp at h2; omega
  ·rw [z3] at h1
   obtain ⟨j, hj⟩ := List.getElem?_of_mem h1
   obtain ⟨k', s, r, e1, e2, e3, e4⟩ := f.way.hop j hp hj
   have : k = k' := by omega
   subst this
   rw [h3] at e3; simp at e3
   rcases e4 with ⟨_, q, _⟩ | ⟨_, q, _⟩ <;> omega
 have hlt : nz d.rates + nz d.ports < nz rates + nz ports := by
  have l1 := nz_le (l := rates) (m := d.rates) rl.symm zr
  have l2 := nz_le (l := ports) (m := d.ports) hpl.symm zp
  rcases hdead with ⟨i, h1, h2⟩ | ⟨i, h1, h2⟩ | ⟨hp, k, h1, h2, h3⟩
  ·have : i = i0 := by have := f.in_; omega
   subst this
   have := nz_lt (l := ports) (m := d.ports) hpl.symm zp hx0 (by omega) h2
   omega
  ·have : i = o := by have := f.out; omega
   subst this
   have := nz_lt (l := ports) (m := d.ports) hpl.symm zp hy (by omega) h2
   omega
  ·obtain ⟨j, hj⟩ := List.getElem?_of_mem h1
   obtain ⟨k', s, r, e1, e2, e3, e4⟩ := f.way.hop j hp hj
   have : k = k' := by omega
   subst this
   have := nz_lt (l := rates) (m := d.rates) rl.symm zr e3 (by rcases e4 with ⟨_, q, _⟩ | ⟨_, q, _⟩ <;> omega) h3
   omega
 have hpi : p.Ports[i0]? = some (p.Ports[i0]'(by have := hp.pl; have := h.res.pl; omega)) := gq _
 have hpo : p.Ports[o]? = some (p.Ports[o]'(by have := hp.pl; have := h.res.pl; omega)) := gq _
 generalize p.Ports[i0]'(by have := hp.pl; have := h.res.pl; omega) = yi at hpi
 generalize p.Ports[o]'(by have := hp.pl; have := h.res.pl; omega) = yo at hpo
 have si := h.pshape i0 x0 yi hx0 hpi
 have so := h.pshape o y yo hy hpo
 have hxr := h.res.prt i0 x0 hx0
 refine ⟨⟨f.res, fun k r' r0 hr' hr0 => ?_, fun k z z0 hz hz0 => ?_, fun k r' r0 hr' hr0 => ?_, fun k z z0 hz hz0 => ?_, fun z hz => ?_, fun z hz => ?_, fun i j a b hij ha hb => ?_, ?_⟩, hlt, fun j z hz => ?_⟩
 ·obtain ⟨r, hr, rfl⟩ := back k r' hr'
  have := h.shape k r r0 hr hr0
  have := f.less k r hr
  omega
 ·rcases hport k z hz with ⟨rfl, rfl⟩ | ⟨rfl, rfl⟩ | ⟨_, _, hz'⟩
  ·rw [hpi] at hz0; simp at hz0; omega
  ·rw [hpo] at hz0; simp at hz0; omega
  ·exact h.pshape k z z0 hz' hz0
 ·obtain ⟨r, hr, rfl⟩ := back k r' hr'
  have := h.sumR k r r0 hr hr0
  rw [segSum_append]; simp only [segSum]; omega
 ·rw [portSum_append]; simp only [portSum, portOf]
  rw [f.in_, f.out]
  rcases hport k z hz with ⟨rfl, rfl⟩ | ⟨rfl, rfl⟩ | ⟨n1, n2, hz'⟩
  ·have := h.sumP k x0 z0 hx0 hz0
   rw [if_pos rfl, if_neg (by omega)]; omega
  ·have := h.sumP k y z0 hy hz0
   rw [if_neg (by omega), if_pos rfl]; omega
  ·have := h.sumP k z z0 hz' hz0
   rw [if_neg (by omega), if_neg (by omega)]; omega
 ·rcases List.mem_append.1 hz with hz | hz
  ·exact h.paths z hz
  ·simp at hz; subst hz
   refine ⟨i0, o, p0, po, yi, yo, nd, f.in_, f.out, f.hp0, f.hpo, hpi, by omega, hpo, by omega, ⟨fun j hh hj => ?_⟩, f.ends.1, f.ends.2, f.len, by omega, by omega⟩
   obtain ⟨k, s, r, e1, e2, e3, e4⟩ := f.way.hop j hh hj
   have hkl := (gs e3).1
   have hr0 : p.Rates[k]? = some (p.Rates[k]'(by have := hp.rl; have := h.res.rl; omega)) := gq _
   generalize p.Rates[k]'(by have := hp.rl; have := h.res.rl; omega) = r0 at hr0
   have hsh := h.shape k r r0 e3 hr0
   refine ⟨k, s, r0, e1, e2, hr0, ?_⟩
   rcases e4 with ⟨b, q, q1, q2⟩ | ⟨b, q, q1, q2⟩
   ·exact .inl ⟨b, by omega, q1, q2⟩
   ·exact .inr ⟨b, by omega, q1, q2⟩
 ·rcases List.mem_append.1 hz with hz | hz
  ·exact keep z (h.dead z hz)
  ·simp at hz; subst hz; exact hdead
 ·have hbl := (gs hb).1
  simp at hbl
  rw [List.getElem?_append_left (by omega)] at ha
  rw [List.getElem?_append] at hb
  split at hb
  ·exact h.apart i j a b hij ha hb
  ·have : j = out.length := by omega
   subst this
   simp at hb; subst hb
   rintro ⟨a1, a2, a3⟩
   exact fresh a a1 a2 a3 (h.dead a (mg ha))
 ·have := h.count
  simp; omega
 ·rcases hport j z hz with ⟨rfl, rfl⟩ | ⟨rfl, rfl⟩ | ⟨_, _, hz'⟩
  ·exact .inr (.inr rfl)
  ·exact .inr (.inl (by omega))
  ·exact .inl hz'
theorem Lt.flip {up : Bool} {a b : Int} (h : Lt up a b) : Lt (!up) b a := by
 cases up <;> simpa [Lt] using h
theorem Res.neg {n : Network} {up : Bool} {rates ports : List Int} (h : Res n up rates ports) : Res n (!up) (rates.map fun x => -x) (ports.map fun x => -x) := by
 refine ⟨by simp [h.rl], by simp [h.pl], fun k r s hr hs => ?_, fun k x hx => ?_, fun v => ?_⟩
 ·rw [List.getElem?_map] at hr
  obtain ⟨r', hr', rfl⟩ := Option.map_eq_some_iff.1 hr
  have := h.rng k r' s hr' hs
  exact ⟨by omega, by omega, fun h => (this.2.2.2 (by omega)).flip, fun h => (this.2.2.1 (by omega)).flip⟩
 ·rw [List.getElem?_map] at hx
  obtain ⟨r', hr', rfl⟩ := Option.map_eq_some_iff.1 hx
  have := h.prt k r' hr'
  omega
 ·have := h.bal v
  rw [dot_neg, dot_neg]; omega
theorem still {n : Network} (hn : NetOk n) {up : Bool} {rates ports : List Int} (h : Res n up rates ports) (hp : ∀ (k : Nat) (x : Int), ports[k]? = some x → x ≤ 0) :
  (∀ (k : Nat) (r : Int), rates[k]? = some r → r = 0) ∧ ∀ (k : Nat) (x : Int), ports[k]? = some x → x = 0 := by
 have hneg := h.neg
 have none : ∀ (m : Nat) (v : Int), far n (!up) v = m → 0 ≤ v ∧ v < (n.Nodes.length : Int) → ¬ Comes n (rates.map fun x => -x) (ports.map fun x => -x) v := by
  intro m
  induction m using Nat.strongRecOn with
  | ind m ih =>
   intro v hm hv hc
   refine leaves hneg hc (fun i p x _ _ hx => ?_) fun k s r hs hr => ?_
   ·rw [List.getElem?_map] at hx
    obtain ⟨r', hr', rfl⟩ := Option.map_eq_some_iff.1 hx
    have := hp i r' hr'
    omega
   ·have hrr := hneg.rng k r s hr hs
    have he := (hn.segs k s hs).ends
    refine ⟨fun ⟨h1, h2⟩ => ?_, fun ⟨h1, h2⟩ => ?_⟩
    ·have hl := hrr.2.2.1 h1
     rw [h2] at hl
     exact ih (far n (!up) s.To) (by have := far_lt hv (by omega) hl; omega) s.To rfl (by omega) (.inr ⟨k, s, r, hs, hr, by omega, .inl ⟨h1, rfl⟩⟩)
    ·have hl := hrr.2.2.2 h1
     rw [h2] at hl
     exact ih (far n (!up) s.From) (by have := far_lt hv (by omega) hl; omega) s.From rfl (by omega) (.inr ⟨k, s, r, hs, hr, by omega, .inr ⟨h1, rfl⟩⟩)
 constructor
 ·intro k r hr
  have hkl := (gs hr).1
  have hs : n.Segments[k]? = some (n.Segments[k]'(by have := h.rl; omega)) := gq _
  generalize n.Segments[k]'(by have := h.rl; omega) = s at hs
  have he := (hn.segs k s hs).ends
  have hr' : (rates.map fun x => -x)[k]? = some (-r) := by rw [List.getElem?_map, hr]; rfl
  rcases Int.lt_trichotomy r 0 with hr0 | hr0 | hr0
  ·exact (none _ s.To rfl (by omega) (.inr ⟨k, s, -r, hs, hr', by omega, .inl ⟨by omega, rfl⟩⟩)).elim
  ·exact hr0
  ·exact (none _ s.From rfl (by omega) (.inr ⟨k, s, -r, hs, hr', by omega, .inr ⟨by omega, rfl⟩⟩)).elim
 ·intro k x hx
  have hkl := (gs hx).1
  have hs : n.Ports[k]? = some (n.Ports[k]'(by have := h.pl; omega)) := gq _
  generalize n.Ports[k]'(by have := h.pl; omega) = q at hs
  have he := (hn.ports k q hs).node
  have hx' : (ports.map fun x => -x)[k]? = some (-x) := by rw [List.getElem?_map, hx]; rfl
  have := hp k x hx
  by_cases hx0 : x = 0
  ·exact hx0
  ·exact (none _ q.Node rfl he (.inl ⟨k, q, -x, hs, rfl, hx', by omega⟩)).elim
structure Divided (n : Network) (up : Bool) (p : Plan) (out : List Path) : Prop where
 res : Res n up p.Rates p.Ports
 sumR : ∀ (k : Nat) (r : Int), p.Rates[k]? = some r → r = segSum k out
 sumP : ∀ (k : Nat) (r : Int), p.Ports[k]? = some r → r = portSum k out
 paths : ∀ x, x ∈ out → PathOk n p x
 apart : ∀ (i j : Nat) (x y : Path), i < j → out[i]? = some x → out[j]? = some y → ¬ (x.In = y.In ∧ x.Out = y.Out ∧ x.Hops = y.Hops)
 count : out.length ≤ 14
theorem clone_ok {l : List Int} (h : l.length ≤ 1000) : L.zvxi l = some l := by
 unfold L.zvxi
 rw [app?_eq (by simp; omega)]; rfl
theorem divide_ok {n : Network} (hn : NetOk n) {p : Plan} (hp : PlanOk n p) : Ok (L.zxps n p) fun r => r.2 = 0 ∧ ∃ up, Divided n up p r.1 := by
 obtain ⟨up, hres⟩ := hp.res
 have h1 := hn.segs1; have h2 := hn.ports1; have h3 := hp.rl; have h4 := hp.pl
 have hcnt : nz p.Rates + nz p.Ports ≤ 14 := by have := nz_len p.Rates; have := nz_len p.Ports; omega
 unfold L.zxps
 rw [netCheck hn, flowCheck hn hp]
 refine .bind' (.pure (Ok.iteU (fun h => absurd rfl h) fun _ => .bind' (.pure (Ok.iteU (fun h => absurd rfl h) fun _ => ?_))))
 rw [clone_ok (by omega), clone_ok (by omega)]
 refine .bind' (.pure (.bind' (.pure ?_)))
 refine .bind' (.forI (S := List ByteArray × List Segment × List Port × List Station × Int × Int × List Int × List Int × List Path) (fun k st => ∃ rates ports out, st = (n.Nodes, n.Segments, n.Ports, n.Stations, n.Vapour, n.Settle, rates, ports, out) ∧ DInv n up p rates ports out ∧ ∀ (j : Nat) (z : Int), j < k → ports[j]? = some z → z ≤ 0)
  (fun _ => False) ⟨_, _, _, rfl, .start hres, fun j z h => absurd h (Nat.not_lt_zero _)⟩ ?_ ?_ fun _ h => h.elim)
 ·rintro k _ hk ⟨rates, ports, out, rfl, hi, hz⟩
  unfold L.zxps.B2
  dsimp only
  refine .bind (Q := fun d : ((List Path) × Int) ⊕ (List ByteArray × List Segment × List Port × List Station × Int × Int × List Int × List Int × List Path) => ∃ rates ports out, d = .inr (n.Nodes, n.Segments, n.Ports, n.Stations, n.Vapour, n.Settle, rates, ports, out) ∧ DInv n up p rates ports out ∧ ∀ (j : Nat) (z : Int), j < k + 1 → ports[j]? = some z → z ≤ 0) ?_ ?_
  ·refine .loop (S := List ByteArray × List Segment × List Port × List Station × Int × Int × List Int × List Int × List Path) (fun st => ∃ rates ports out, st = (n.Nodes, n.Segments, n.Ports, n.Stations, n.Vapour, n.Settle, rates, ports, out) ∧ DInv n up p rates ports out ∧ ∀ (j : Nat) (z : Int), j < k → ports[j]? = some z → z ≤ 0)
    (fun st => nz st.2.2.2.2.2.2.1 + nz st.2.2.2.2.2.2.2.1) ⟨rates, ports, out, rfl, hi, hz⟩ (by have := hi.count; dsimp only; omega) ?_
   rintro _ ⟨rates, ports, out, rfl, hi, hz⟩
   have hpl := hi.res.pl
   have hx : ports[k]? = some (ports[k]'(by omega)) := gq _
   generalize ports[k]'(by omega) = x at hx
   unfold L.zxps.B4
   refine .bind' (.eq (ix_nat hx) (Ok.iteD (fun hpos => ?_) fun hneg => .pure ⟨rates, ports, out, rfl, hi, fun j z hj hjz => ?_⟩))
   ·dsimp only at hpos ⊢
    refine .bind (follow_ok hn hi.res hx hpos) ?_
    rintro ⟨y, d⟩ ⟨o, p0, po, y1, nd, f⟩
    dsimp only at f
    obtain ⟨g1, g2, g3⟩ := hi.follow hres f
    have hc := hi.count
    have hf := f.len
    refine Ok.iteB (fun hb => ?_) fun _ => .bind' (.app (by simp; omega) (.pure ⟨⟨d.rates, d.ports, out ++ [y], ?_, g1, fun j z hj hjz => ?_⟩, g2⟩))
    ·simp at hb; omega
    ·rw [f.net]
    ·rcases g3 j z hjz with h | h | h
     ·exact hz j z hj h
     ·exact h
     ·omega
   ·dsimp only at hneg
    by_cases hjk : j = k
    ·subst hjk; rw [hx] at hjz; simp at hjz; omega
    ·exact hz j z (by omega) hjz
  ·rintro _ ⟨rates, ports, out, rfl, hi, hz⟩
   simp only [Sum.elim_inr]
   unfold L.zxps.J3
   exact .pure ⟨rates, ports, out, rfl, hi, hz⟩
 ·rintro _ ⟨rates, ports, out, rfl, hi, hz⟩
  simp only [Sum.elim_inl]
  unfold L.zxps.J1
  have hpl := hi.res.pl; have hrl := hi.res.rl
  obtain ⟨s1, s2⟩ := still hn hi.res fun k x hx => hz k x (by have := (gs hx).1; omega) hx
  refine .pure ⟨rfl, up, hres, fun k r hr => ?_, fun k r hr => ?_, hi.paths, hi.apart, by have := hi.count; dsimp only; omega⟩
  ·have hkl := (gs hr).1
   have hq : rates[k]? = some (rates[k]'(by omega)) := gq _
   have := hi.sumR k _ r hq hr
   have := s1 k _ hq
   dsimp only; omega
  ·have hkl := (gs hr).1
   have hq : ports[k]? = some (ports[k]'(by omega)) := gq _
   have := hi.sumP k _ r hq hr
   have := s2 k _ hq
   dsimp only; omega
theorem ref12Names_ok {n : Network} (h1 : n.Segments.length ≤ 1000) (h2 : n.Ports.length ≤ 1000) (h3 : n.Stations.length ≤ 1000) :
  Ok (L.zghg n) fun r => r.l = [n.Nodes, n.Segments.map (·.Name), n.Ports.map (·.Name), n.Stations.map (·.Name)] := by
 unfold L.zghg
 refine .bind (maps_ok (g := (·.Name)) (fun _ _ _ => rfl) h1) ?_
 rintro _ rfl
 unfold L.zghg.J1
 refine .bind (maps_ok (g := (·.Name)) (fun _ _ _ => rfl) h2) ?_
 rintro _ rfl
 unfold L.zghg.J2
 refine .bind (maps_ok (g := (·.Name)) (fun _ _ _ => rfl) h3) ?_
 rintro _ rfl
 unfold L.zghg.J3
 exact .pure rfl
theorem Ok.ixs {s : ByteArray} {i : Int} {P : Nat × Int → Prop} (h0 : 0 ≤ i) (h1 : i < (s.size : Int)) (h : ∀ (k : Nat) (x : Int), i = (k : Int) → 0 ≤ x ∧ x ≤ 255 → P (k, x)) : Ok (ixs s i) P := by
 unfold Aw.ixs
 refine ⟨_, if_pos ⟨h0, h1⟩, h _ _ (by omega) ?_⟩
 have := (s.data.getD i.toNat 0).toNat_lt
 omega
theorem abs16 {x : Int} (h : -1000000 ≤ x ∧ x ≤ 1000000) : L.zuap x = max x (-x) := by
 unfold L.zuap
 rw [wr_id (by omega), Int.zero_sub]
theorem endsOf16 {s : Segment} {r : Int} : L.zdwa s r = L.ztzg s r := rfl
structure Sum16 (b : Int) (st : Int × Int) (d : Int) : Prop where
 come : 0 ≤ st.1 ∧ st.1 ≤ b
 leave : 0 ≤ st.2 ∧ st.2 ≤ b
 diff : st.1 - st.2 = d
theorem sums16_ok {n : Network} (hn : NetG n) {p : Plan} (h4 : p.Rates.length = n.Segments.length) (h5 : p.Ports.length = n.Ports.length) (hr : ∀ (k : Nat) (r : Int), p.Rates[k]? = some r → -1000 ≤ r ∧ r ≤ 1000)
  (hp : ∀ (k : Nat) (x : Int), p.Ports[k]? = some x → -1000 ≤ x ∧ x ≤ 1000) (v : Nat) : Ok (L.zeew n p (v : Int)) fun r => r.1 - r.2 = dot (wt n v) p.Rates + dot (wp n v) p.Ports := by
 have h2 := hn.segs1; have h3 := hn.ports1
 unfold L.zeew
 refine .bind (.forS (fun k (st : Int × Int) => Sum16 (1000 * k) st (dot (wt n v) (p.Rates.take k))) ⟨by simp, by simp, by simp [dot_nil]⟩ ?_ fun st h => h) ?_
 ·rintro k s ⟨a, b⟩ hs ⟨i1, i2, i3⟩
  dsimp only at i1 i2 i3
  have hkl := (gs hs).1
  have hrk : p.Rates[k]? = some p.Rates[k] := gq (by omega)
  have hrr := hr k _ hrk
  have he := (hn.segs k s hs).ends
  have hd := dot_take_succ (w := wt n v) (a := ind s.To v - ind s.From v) (by unfold wt; rw [List.getElem?_map, hs]; rfl) hrk
  generalize p.Rates[k] = r at hrk hrr hd
  unfold L.zeew.B5
  refine .bind' (.eq (ix_nat hrk) (Ok.iteE (fun h0 => ?_) fun h0 => ?_))
  ·dsimp only at h0
   subst h0
   unfold L.zeew.J6
   rw [hd]
   exact .pure ⟨by dsimp only; omega, by dsimp only; omega, by simp; omega⟩
  dsimp only at h0 ⊢
  have ha := abs16 (x := r) (by omega)
  rw [ha]
  have j7 : ∀ (j : Int), 0 ≤ j ∧ j ≤ 1000 * k + 1000 → ∀ l : Int, l = ind (L.ztzg s r).1 v → j = b + max r (-r) * l → Ok (L.zeew.J7 (v : Int) s (a, b) (k, r) j) fun st => Sum16 (1000 * ((k + 1 : Nat) : Int)) st (dot (wt n v) (p.Rates.take (k + 1))) := by
   intro j hj l hl hjl
   unfold L.zeew.J7 L.zeew.J6
   dsimp only
   rw [ha, endsOf16]
   have fin : ∀ c : Int, c = ind (L.ztzg s r).2 v → a + max r (-r) * c - j = dot (wt n v) (p.Rates.take (k + 1)) := by
    intro c hc
    subst hc; subst hl; subst hjl
    rw [hd]
    rcases endsOf (s := s) h0 with ⟨e, hr0⟩ | ⟨e, hr0⟩
    ·rw [e]
     dsimp only
     rw [show max r (-r) = -r by omega, Int.neg_mul, Int.neg_mul, Int.sub_mul, Int.mul_comm r, Int.mul_comm r]; omega
    ·rw [e]
     dsimp only
     rw [show max r (-r) = r by omega, Int.sub_mul, Int.mul_comm r, Int.mul_comm r]; omega
   refine Ok.iteE (fun hv => .pure ?_) fun hv => .pure ?_
   ·rw [wr_id (by omega)]
    have := fin 1 (by rw [hv, ind_self])
    exact ⟨by dsimp only; omega, by dsimp only; omega, by dsimp only; omega⟩
   ·have := fin 0 (by rw [ind_ne hv])
    exact ⟨by dsimp only; omega, by dsimp only; omega, by dsimp only; omega⟩
  rw [endsOf16]
  refine Ok.iteE (fun hv => j7 _ ?_ 1 (by rw [hv, ind_self]) ?_) fun hv => j7 _ ?_ 0 (by rw [ind_ne hv]) ?_
  ·rw [wr_id (by omega)]; omega
  ·rw [wr_id (by omega)]; omega
  ·omega
  ·omega
 ·rintro ⟨a, b⟩ hi
  rw [List.take_of_length_le (by omega)] at hi
  unfold L.zeew.J1
  refine .bind (.forS (fun k (st : Int × Int) => Sum16 (8000 + 1000 * k) st (dot (wt n v) p.Rates + dot (wp n v) (p.Ports.take k))) ⟨by have := hi.come; dsimp only at this ⊢; omega, by have := hi.leave; dsimp only at this ⊢; omega, by have := hi.diff; dsimp only at this ⊢; simp [dot_nil]; omega⟩ ?_ fun st h => h) ?_
  ·rintro k s ⟨a, b⟩ hs ⟨i1, i2, i3⟩
   dsimp only at i1 i2 i3
   have hkl := (gs hs).1
   have hrk : p.Ports[k]? = some p.Ports[k] := gq (by omega)
   have hrr := hp k _ hrk
   have hd := dot_take_succ (w := wp n v) (a := ind s.Node v) (by unfold wp; rw [List.getElem?_map, hs]; rfl) hrk
   generalize p.Ports[k] = r at hrk hrr hd
   unfold L.zeew.B3 L.zeew.J4
   refine Ok.iteE (fun hv => .bind' (.eq (ix_nat hrk) (.pure ?_))) fun hv => .pure ?_
   ·rw [hv, ind_self] at hd
    dsimp only
    rw [wr_id (x := 0 - r) (by omega), wr_id (by omega), wr_id (by omega), hd]
    exact ⟨by dsimp only; omega, by dsimp only; omega, by dsimp only; omega⟩
   ·rw [ind_ne hv] at hd
    rw [hd]
    exact ⟨by dsimp only; omega, by dsimp only; omega, by dsimp only; omega⟩
  ·rintro ⟨a, b⟩ hi
   rw [List.take_of_length_le (by omega)] at hi
   unfold L.zeew.J2
   exact .pure hi.diff
theorem nameOk03 {c : UInt8} (hc : c = 110 ∨ c = 103 ∨ c = 113 ∨ c = 115) {k : Nat} (hk : k < 26) : L.zgmr (nm c k) = some true := by
 rcases hc with rfl | rfl | rfl | rfl <;>
  rcases lt26 hk with rfl | rfl | rfl | rfl | rfl | rfl | rfl | rfl | rfl | rfl | rfl | rfl | rfl | rfl | rfl | rfl | rfl | rfl | rfl | rfl | rfl | rfl | rfl | rfl | rfl | rfl <;> kernel_rfl
theorem twice12 {c : UInt8} {l : List ByteArray} (h : Named c l) : L.zaag l = some false := by
 have : Ok (L.zaag l) fun r => r = false := by
  obtain ⟨h1, h2⟩ := h
  unfold L.zaag
  refine .bind' (.forL (fun _ _ => True) (fun _ => False) trivial ?_ (fun _ _ => .pure rfl) fun _ h => h.elim)
  intro k x _ hx _
  have hkl := (gs hx).1
  unfold L.zaag.B2
  refine .bind (Q := fun d : Bool ⊕ Unit => d = .inr ()) ?_ ?_
  ·refine .loop (fun st : Int => 0 ≤ st ∧ st ≤ (k : Int)) (fun st => k - st.toNat) ⟨by omega, by omega⟩ (by omega) ?_
   rintro st ⟨h0, h3⟩
   unfold L.zaag.B4
   refine Ok.iteD (fun hlt => .bind' (.ix' h0 (by omega) fun j y hj hy => Ok.iteB (fun he => ?_) fun _ => .pure ?_)) fun _ => .pure rfl
   ·have e1 := h2 k x hx; have e2 := h2 j y hy
    subst e1; subst e2
    have := nm_inj (by omega) (by omega) he
    omega
   ·rw [wr_id (by omega)]
    exact ⟨⟨by omega, by omega⟩, by omega⟩
  ·rintro _ rfl
   exact .pure trivial
 obtain ⟨r, h, rfl⟩ := this
 exact h
theorem proper12 {nodes k : Nat} {s : Segment} (h : SegOk nodes k s) : L.zimi s = some true := by
 have : Ok (L.zimi s) fun r => r = true := by
  have hp := h.points
  have h1 := h.ends; have h2 := h.cap; have h3 := h.resist; have h4 := h.wave; have h5 := hp.len
  have e0 : s.Points[0]? = some s.Points[0] := gq (by omega)
  have el : s.Points[s.Points.length - 1]? = some s.Points[s.Points.length - 1] := gq (by omega)
  have q0 := hp.first _ e0; have ql := hp.last _ el
  unfold L.zimi
  refine Ok.iteE (fun h => by omega) fun _ => Ok.iteN (fun hb => by simp [L.zmae] at hb; omega) fun _ => Ok.iteN (fun hb => by simp [L.zmae] at hb; omega) fun _ => Ok.iteN (fun hb => by simp [L.zmae] at hb; omega) fun _ => ?_
  refine .bind' (.ix 0 rfl (by omega) (Ok.iteU (fun h => absurd q0 h) fun _ => ?_))
  rw [wr_id (by omega)]
  refine .bind' (.ix (s.Points.length - 1) (by omega) (by omega) ?_)
  dsimp only
  rw [ql]
  unfold L.zimi.J1
  refine Ok.iteB (fun h => by simp at h) fun _ => .bind' (.forL (fun _ _ => True) (fun _ => False) trivial ?_ (fun _ _ => .pure rfl) fun _ h => h.elim)
  intro i p _ hi _
  have hm := mg hi
  have g1 := hp.height p hm; have g2 := hp.limit p hm
  have no : Ok (L.zimi.J4 (!(L.zmae p.Limit 0 100000000))) (Sum.elim (fun _ : Unit => True) fun _ : Bool => False) := by
   unfold L.zimi.J4
   refine Ok.iteN (fun hb => by simp [L.zmae] at hb; omega) fun _ => .pure trivial
  unfold L.zimi.B3
  refine Ok.iteD (fun h0 => ?_) fun h0 => Ok.iteN (fun hb => by simp [L.zmae] at hb; omega) fun _ => no
  rw [wr_id (by have := (gs hi).1; omega)]
  obtain ⟨j, rfl⟩ : ∃ j, i = j + 1 := ⟨i - 1, by omega⟩
  have hjl : j < s.Points.length := by have := (gs hi).1; omega
  have hj : s.Points[j]? = some s.Points[j] := gq hjl
  have hup := hp.up j _ p hj hi
  refine .bind' (.ix j (by omega) hjl (Ok.iteD (fun h => by dsimp only at h; omega) fun _ => Ok.iteN (fun hb => by simp [L.zmae] at hb; omega) fun _ => no))
 obtain ⟨r, h, rfl⟩ := this
 exact h
theorem check12 {n : Network} (h : NetOk n) : L.zgcl n = some 0 := by
 have : Ok (L.zgcl n) fun r => r = 0 := by
  have h1 := h.nodes; have h2 := h.segs1; have h3 := h.ports1; have h4 := h.sts1; have h5 := h.vapour; have h6 := h.settle
  have T : ∀ {α β : Type} {l : List α} {f : Nat → α → Unit → Option (Unit ⊕ β)} {K : Unit ⊕ β → Option β} {P : β → Prop}, (∀ k x, l[k]? = some x → f k x () = some (.inl ())) → Ok (K (.inl ())) P → Ok ((forL f 0 l ()).bind K) P := by
   intro α β l f K P hf hK
   refine .bind' (.forL (fun _ _ => True) (fun _ => False) trivial (fun k x st hx _ => ?_) (fun _ _ => hK) fun _ h => h.elim)
   exact ⟨_, hf k x hx, trivial⟩
  unfold L.zgcl
  refine Ok.iteB (fun hb => by simp [L.zmae] at hb; omega) fun _ => T (fun k x hx => ?_) ?_
  ·have := (h.segs k x hx).points.len
   unfold L.zgcl.B24; rw [if_neg (by simp [L.zmae]; omega)]
  simp only [Sum.elim_inl]
  unfold L.zgcl.J1
  refine .bind (ref12Names_ok (by omega) (by omega) (by omega)) fun r hr => ?_
  have hnm : ∀ (k : Nat) (hk : k < 4), r.l[k]'(by rw [hr]; exact hk) = ([n.Nodes, n.Segments.map (·.Name), n.Ports.map (·.Name), n.Stations.map (·.Name)])[k]'hk := fun k hk => by simp only [hr]
  refine .bind' (.forI (fun _ _ => True) (fun _ => False) trivial ?_ ?_ fun _ h => h.elim)
  ·intro k _ hk _
   obtain ⟨c, hc, hl⟩ := h.named _ (List.getElem_mem (l := [n.Nodes, n.Segments.map (·.Name), n.Ports.map (·.Name), n.Stations.map (·.Name)]) (n := k) hk)
   unfold L.zgcl.B21
   refine .bind' (.ix k rfl (by rw [hr]; exact hk) ?_)
   dsimp only
   rw [hnm k hk]
   refine .bind' (.forL (fun _ _ => True) (fun _ => False) trivial ?_ (fun _ _ => .pure trivial) fun _ h => h.elim)
   intro j x _ hx _
   have := hl.2 j x hx
   have hjl := (gs hx).1
   subst this
   unfold L.zgcl.B23
   rw [nameOk03 hc (by have := hl.1; omega)]
   exact .bind' (.pure (Ok.iteN (fun h => by cases h) fun _ => .pure trivial))
  intro _ _
  simp only [Sum.elim_inl]
  unfold L.zgcl.J2
  refine .bind' (.forI (fun _ _ => True) (fun _ => False) trivial ?_ ?_ fun _ h => h.elim)
  ·intro k _ hk _
   obtain ⟨c, hc, hl⟩ := h.named _ (List.getElem_mem (l := [n.Nodes, n.Segments.map (·.Name), n.Ports.map (·.Name), n.Stations.map (·.Name)]) (n := k) hk)
   unfold L.zgcl.B20
   refine .bind' (.ix k rfl (by rw [hr]; exact hk) ?_)
   dsimp only
   rw [hnm k hk, twice12 hl]
   exact .bind' (.pure (Ok.iteB (fun h => by cases h) fun _ => .pure trivial))
  intro _ _
  simp only [Sum.elim_inl]
  unfold L.zgcl.J3
  refine .bind' (.forL (fun _ _ => True) (fun _ => False) trivial ?_ ?_ fun _ h => h.elim)
  ·intro k x _ hx _
   have hkl := (gs hx).1
   unfold L.zgcl.B17
   refine .bind (Q := fun d : Int ⊕ Unit => d = .inr ()) ?_ ?_
   ·refine .loop (fun st : Int => 0 ≤ st ∧ st ≤ (k : Int)) (fun st => k - st.toNat) ⟨by omega, by omega⟩ (by omega) ?_
    rintro st ⟨h0, h1⟩
    unfold L.zgcl.B19
    refine Ok.iteD (fun hlt => .bind' (.ix' h0 (by omega) fun j y hj hy => Ok.iteE (fun he => ?_) fun _ => .pure ?_)) fun _ => .pure rfl
    ·have := h.stsUp j k y x (by omega) hy hx
     dsimp only at he; omega
    ·rw [wr_id (by omega)]
     exact ⟨⟨by omega, by omega⟩, by omega⟩
   ·rintro _ rfl
    exact .pure trivial
  intro _ _
  simp only [Sum.elim_inl]
  unfold L.zgcl.J4
  refine T (fun k x hx => ?_) ?_
  ·have := (h.segs k x hx).ends
   unfold L.zgcl.B16; rw [wr_id (by omega), if_neg (by simp [L.zmae]; omega)]
  simp only [Sum.elim_inl]
  unfold L.zgcl.J5
  refine T (fun k x hx => ?_) ?_
  ·have := (h.ports k x hx).node
   unfold L.zgcl.B15; rw [wr_id (by omega), if_neg (by simp [L.zmae]; omega)]
  simp only [Sum.elim_inl]
  unfold L.zgcl.J6
  refine T (fun k x hx => ?_) ?_
  ·have := (h.sts k x hx).node
   unfold L.zgcl.B14; rw [wr_id (by omega), if_neg (by simp [L.zmae]; omega)]
  simp only [Sum.elim_inl]
  unfold L.zgcl.J7
  refine T (fun k x hx => ?_) ?_
  ·unfold L.zgcl.B13; rw [proper12 (h.segs k x hx)]; rfl
  simp only [Sum.elim_inl]
  unfold L.zgcl.J8
  refine T (fun k x hx => ?_) ?_
  ·have := (h.ports k x hx).pressure
   unfold L.zgcl.B12; rw [if_neg (by simp [L.zmae]; omega)]
  simp only [Sum.elim_inl]
  unfold L.zgcl.J9
  refine T (fun k x hx => ?_) ?_
  ·have a1 := (h.sts k x hx).head; have a2 := (h.sts k x hx).fall; have a3 := (h.sts k x hx).suction
   unfold L.zgcl.B11; rw [if_neg (by simp [L.zmae]; omega)]
  simp only [Sum.elim_inl]
  unfold L.zgcl.J10
  exact Ok.iteB (fun hb => by simp [L.zmae] at hb; omega) fun _ => .pure rfl
 obtain ⟨r, h, rfl⟩ := this
 exact h
theorem order16_fullG {n : Network} (hn : NetG n) {p : Plan} (h4 : p.Rates.length = n.Segments.length) (hac : Acyc n p) : Ok (L.zaew n p) fun r => r.length = n.Nodes.length := by
 have h1 := hn.nodes; have h2 := hn.segs1
 unfold L.zaew
 refine .bind' (.mk n.Nodes.length rfl (by omega) ?_)
 refine .bind (Q := fun r : List Int => r.length = n.Nodes.length) ?_ fun r hr => .pure hr
 refine .loop (fun st : List Int × List Bool => st.2.length = n.Nodes.length ∧ st.1.length = cnt st.2) (fun st => n.Nodes.length - cnt st.2)
  ⟨by simp, by simp [cnt_rep]⟩ (by dsimp only; omega) ?_
 rintro ⟨out, there⟩ ⟨i1, i2⟩
 dsimp only at i1 i2
 have hc := cnt_le there
 unfold L.zaew.B1
 refine .bind (Q := fun k : Int => (k = -1 ∧ ∀ j : Nat, there[j]? = some false → Blocked n p there j) ∨ ∃ j : Nat, k = (j : Int) ∧ there[j]? = some false) ?_ ?_
 ·refine .forS (fun m (k : Int) => (k = -1 ∧ ∀ j : Nat, j < m → there[j]? = some false → Blocked n p there j) ∨ ∃ j : Nat, k = (j : Int) ∧ there[j]? = some false) (.inl ⟨rfl, fun j h => absurd h (Nat.not_lt_zero _)⟩) ?_ ?_
  ·intro k x st hx hst
   have hkl := (gs hx).1
   have ht : there[k]? = some there[k] := gq (by omega)
   unfold L.zaew.B3
   refine .bind' (.eq (ix_nat ht) ?_)
   refine .bind (Q := fun b => (b = true → there[k]? = some false) ∧ (b = false → there[k]? = some false → Blocked n p there k)) ?_ ?_
   ·refine .forS (fun m (b : Bool) => (b = true → there[k]? = some false) ∧ (b = false → there[k]? = some false → Blocked n p there k)) ?_ ?_ fun b h => h
    ·refine ⟨fun hb => ?_, fun hb hf => ?_⟩
     ·rw [ht]; simpa using hb
     ·rw [ht] at hf; simp at hf; simp [hf] at hb
    ·intro i s b hs hb
     have hil := (gs hs).1
     have hr : p.Rates[i]? = some (p.Rates[i]'(by omega)) := gq _
     generalize p.Rates[i]'(by omega) = r at hr
     have he := (hn.segs i s hs).ends
     unfold L.zaew.B6 L.zaew.J7
     refine .bind' (.eq (ix_nat hr) (Ok.iteU (fun hr0 => Ok.iteB (fun hbt => Ok.iteU (fun hto => .pure ⟨fun _ => hb.1 hbt, fun h => by cases h⟩) fun hto => ?_) fun hbf => .pure ⟨fun h => (by cases h), fun _ => hb.2 hbf⟩) fun _ => .pure hb))
     dsimp only at hr0 hto ⊢
     rw [endsOf16] at hto
     have hfr : 0 ≤ (L.ztzg s r).1 ∧ (L.ztzg s r).1 < (n.Nodes.length : Int) := by
      unfold L.ztzg
      split <;> dsimp only <;> omega
     rw [endsOf16]
     refine .bind' (.ix' hfr.1 (by omega) fun f y hf hy => .pure ⟨fun _ => hb.1 hbt, fun hyf _ => ⟨i, s, r, f, hs, hr, hr0, hto, hf, ?_⟩⟩)
     dsimp only at hy hyf
     rw [hy, hyf]
   ·rintro b ⟨b1, b2⟩
    unfold L.zaew.J5 L.zaew.J4
    refine Ok.iteB (fun h => .pure (.inr ⟨k, rfl, b1 ?_⟩)) fun hno => .pure ?_
    ·simp at h; exact h.1
    ·rcases hst with ⟨rfl, hst⟩ | hst
     ·refine .inl ⟨rfl, fun j hj hf => ?_⟩
      by_cases hjk : j = k
      ·subst hjk
       simp at hno
       exact b2 hno hf
      ·exact hst j (by omega) hf
     ·exact .inr hst
  ·rintro k (⟨rfl, h⟩ | h)
   ·exact .inl ⟨rfl, fun j hj => h j (by have := (gs hj).1; omega) hj⟩
   ·exact .inr h
 ·intro k hk
  unfold L.zaew.J2
  refine Ok.iteD (fun hneg => .pure ?_) fun h0 => ?_
  ·rcases hk with ⟨_, h⟩ | ⟨j, rfl, _⟩
   ·have := cnt_all (hac there i1 h)
    simp only [Sum.elim_inr]
    omega
   ·omega
  ·rcases hk with ⟨rfl, _⟩ | ⟨j, rfl, hj1⟩
   ·exact absurd (by decide) h0
   refine .bind' (.app (by simp; omega) (.bind' (.eq (ix_nat hj1) (.pure ?_))))
   have hcs := cnt_set hj1
   have hcl := cnt_le (there.set j true)
   simp at hcl
   exact ⟨⟨by simp [i1], by simp [hcs, i2]⟩, by dsimp only; omega⟩
theorem check16G {n : Network} (hn : NetG n) (h12 : L.zgcl n = some 0) {p : Plan} (h : FlowOk n p) : L.zvqa n p = some 0 := by
 have : Ok (L.zvqa n p) fun r => r = 0 := by
  have h1 := hn.nodes; have h2 := hn.segs1; have h3 := hn.ports1; have h4 := h.rl; have h5 := h.pl; have h6 := h.ml
  have hrr : ∀ (k : Nat) (r : Int), p.Rates[k]? = some r → -1000 ≤ r ∧ r ≤ 1000 := fun k r hr => by
   have hkl := (gs hr).1
   have hs : n.Segments[k]? = some (n.Segments[k]'(by omega)) := gq _
   have := h.rng k r _ hr hs
   omega
  unfold L.zvqa
  rw [h12]
  refine .bind' (.pure (Ok.iteU (fun h => absurd rfl h) fun _ => Ok.iteB (fun hb => by simp [h4, h5, h6] at hb) fun _ => ?_))
  refine .bind' (.forL (fun _ _ => True) (fun _ => False) trivial ?_ ?_ fun _ h => h.elim)
  ·intro k r _ hr _
   have hkl := (gs hr).1
   have hs : n.Segments[k]? = some n.Segments[k] := gq (by omega)
   have hc := (hn.segs k _ hs).cap
   have hg := h.rng k r _ hr hs
   unfold L.zvqa.B6
   refine .bind' (.eq (ix_nat hs) (Ok.iteB (fun hb => ?_) fun _ => .pure trivial))
   dsimp only at hb
   rw [wr_id (by omega)] at hb
   simp at hb; omega
  intro _ _
  simp only [Sum.elim_inl]
  unfold L.zvqa.J1
  refine .bind' (.forL (fun _ _ => True) (fun _ => False) trivial ?_ ?_ fun _ h => h.elim)
  ·intro k x _ hx _
   have := h.prt k x hx
   unfold L.zvqa.B5
   exact Ok.iteB (fun hb => by simp at hb; omega) fun _ => .pure trivial
  intro _ _
  simp only [Sum.elim_inl]
  unfold L.zvqa.J2
  refine .bind' (.forL (fun _ _ => True) (fun _ => False) trivial ?_ ?_ fun _ h => h.elim)
  ·intro k x _ hx _
   have hkl := (gs hx).1
   unfold L.zvqa.B4
   refine .bind (sums16_ok hn h4 h5 hrr h.prt k) fun r hr => Ok.iteU (fun hne => ?_) fun _ => .pure trivial
   have := h.bal k (by omega)
   omega
  intro _ _
  simp only [Sum.elim_inl]
  unfold L.zvqa.J3
  exact .bind (order16_fullG hn h4 h.acyc) fun r hr => Ok.iteU (fun hne => by omega) fun _ => .pure rfl
 obtain ⟨r, h, rfl⟩ := this
 exact h
theorem check16 {n : Network} (hn : NetOk n) {p : Plan} (h : FlowOk n p) : L.zvqa n p = some 0 := check16G hn.g (check12 hn) h
theorem with_ok {x : Path} (h : x.Hops.length ≤ 1000) (r : Int) : L.znbv x r = some ⟨x.In, x.Out, x.Hops, r⟩ := by
 unfold L.znbv L.zjlw
 rw [app?_eq (by simp; omega)]; rfl
def goes (k : Nat) (x : Path) : Bool := x.Hops.any fun h => h.Segment == (k : Int)
def hcnt (k : Nat) : List Hop → Int
 | [] => 0
 | h :: t => (if h.Segment = (k : Int) then 1 else 0) + hcnt k t
theorem hcnt_zero {k : Nat} : ∀ {l : List Hop}, (∀ h, h ∈ l → h.Segment ≠ (k : Int)) → hcnt k l = 0
 | [], _ => rfl
 | h :: l, hh => by
  simp only [hcnt]
  rw [if_neg (hh h (by simp)), hcnt_zero fun x hx => hh x (by simp [hx])]; rfl
theorem hcnt_one {k : Nat} : ∀ {l : List Hop} {i : Nat} {h : Hop}, l[i]? = some h → h.Segment = (k : Int) → (∀ (j : Nat) (x : Hop), j ≠ i → l[j]? = some x → x.Segment ≠ (k : Int)) → hcnt k l = 1
 | [], i, h, hi, _, _ => by simp at hi
 | x :: l, 0, h, hi, hk, ho => by
  simp at hi; subst hi
  simp only [hcnt]
  rw [if_pos hk, hcnt_zero fun y hy => ?_]; omega
  obtain ⟨j, hj⟩ := List.getElem?_of_mem hy
  exact ho (j + 1) y (by omega) (by simpa using hj)
 | x :: l, i + 1, h, hi, hk, ho => by
  simp only [hcnt]
  rw [if_neg (ho 0 x (by omega) rfl), hcnt_one (i := i) (by simpa using hi) hk fun j y hj hy => ho (j + 1) y (by omega) (by simpa using hy)]; omega
theorem PathOk.over {n : Network} {up : Bool} {p : Plan} (hr : Res n up p.Rates p.Ports) {x : Path} (hx : PathOk n p x) {k : Nat} {r : Int} (hk : p.Rates[k]? = some r) :
  (goes k x = false ∧ hsum x.Rate k x.Hops = 0) ∨ (goes k x = true ∧ hcnt k x.Hops = 1 ∧ (0 < r ∧ hsum x.Rate k x.Hops = x.Rate ∨ r < 0 ∧ hsum x.Rate k x.Hops = -x.Rate)) := by
 obtain ⟨i, o, p0, po, y0, y1, nd, e1, e2, e3, e4, e5, e6, e7, e8, w, e9, e10, e11, e12, e13⟩ := hx
 by_cases hex : ∃ (i : Nat) (h : Hop), x.Hops[i]? = some h ∧ h.Segment = (k : Int)
 ·obtain ⟨j, h, hj, hs⟩ := hex
  have once : ∀ (j' : Nat) (y : Hop), j' ≠ j → x.Hops[j']? = some y → y.Segment ≠ (k : Int) := fun j' y hj' hy he => hj' (w.once hr hy hj (he.trans hs.symm))
  obtain ⟨k', s, r', q1, q2, q3, q4⟩ := w.hop j h hj
  have : k = k' := by omega
  subst this
  rw [hk] at q3; simp at q3; subst q3
  refine .inr ⟨List.any_eq_true.2 ⟨h, mg hj, by simp [hs]⟩, hcnt_one hj hs once, ?_⟩
  rw [hsum_one hj hs once]
  unfold sgn
  rcases q4 with ⟨b, q, _⟩ | ⟨b, q, _⟩
  ·exact .inl ⟨q, by rw [b]; rfl⟩
  ·exact .inr ⟨q, by rw [b]; rfl⟩
 ·have hno : ∀ h, h ∈ x.Hops → h.Segment ≠ (k : Int) := fun h hm hs => by
   obtain ⟨j, hj⟩ := List.getElem?_of_mem hm
   exact hex ⟨j, h, hj, hs⟩
  refine .inl ⟨?_, hsum_zero hno⟩
  unfold goes
  rw [List.any_eq_false]
  intro h hm
  have := hno h hm
  simpa using this
theorem grow_ok {n : Network} {up : Bool} {p : Plan} (hr : Res n up p.Rates p.Ports) {x : Path} (hx : PathOk n p x) {rates ports : List Int} {pumps : List Bool} (hrl : rates.length = n.Segments.length) (hpl : ports.length = n.Ports.length)
  (hrb : ∀ (k : Nat) (r : Int), rates[k]? = some r → -1000000 ≤ r ∧ r ≤ 1000000) (hpb : ∀ (k : Nat) (r : Int), ports[k]? = some r → -1000000 ≤ r ∧ r ≤ 1000000) :
  Ok (L.zvqh ⟨rates, ports, pumps⟩ x x.Rate) fun q => q.Rates.length = rates.length ∧ q.Ports.length = ports.length ∧ q.Pumps = pumps ∧ (∀ (k : Nat) (r : Int), rates[k]? = some r → q.Rates[k]? = some (r + hsum x.Rate k x.Hops)) ∧
   (∀ (k : Nat) (r : Int), ports[k]? = some r → q.Ports[k]? = some (r + portOf k x)) ∧ ∀ v, dot (wt n v) q.Rates + dot (wp n v) q.Ports = dot (wt n v) rates + dot (wp n v) ports := by
 obtain ⟨i, o, p0, po, y0, y1, nd, e1, e2, e3, e4, e5, e6, e7, e8, w, e9, e10, e11, e12, e13⟩ := hx
 have hil := (gs e3).1
 have hol := (gs e4).1
 have hne : i ≠ o := by rintro rfl; rw [e5] at e7; simp at e7; omega
 have hpi : ports[i]? = some (ports[i]'(by omega)) := gq _
 have hpo : ports[o]? = some (ports[o]'(by omega)) := gq _
 generalize ports[i]'(by omega) = zi at hpi
 generalize ports[o]'(by omega) = zo at hpo
 have hzi := hpb i zi hpi
 have hzo := hpb o zo hpo
 have w1 : wr (zi + x.Rate) = zi + x.Rate := wr_id (by omega)
 have w2 : wr (zo - x.Rate) = zo - x.Rate := wr_id (by omega)
 have hset : (ports.set i (zi + x.Rate))[o]? = some zo := by rw [List.getElem?_set_ne hne]; exact hpo
 unfold L.zvqh
 rw [e1, e2]
 refine .bind' (.eq (ix_nat hpi) ?_)
 dsimp only
 rw [w1]
 refine .bind' (.eq (ix_nat hset) ?_)
 dsimp only
 rw [w2]
 refine .bind (.forS (fun j st => st.length = rates.length ∧ (∀ (k : Nat) (r : Int), rates[k]? = some r → st[k]? = some (r + hsum x.Rate k (x.Hops.take j))) ∧ ∀ v, dot (wt n v) st = dot (wt n v) rates + (x.Rate * ind (nd j) v - x.Rate * ind (nd 0) v)) ⟨rfl, fun k r hr => by simp [hsum, hr], fun v => by omega⟩ ?_ fun st h => h) ?_
 ·rintro j h st hj ⟨i1, i2, i3⟩
  have hjl := (gs hj).1
  obtain ⟨k, s, r0, q1, q2, q3, q4⟩ := w.hop j h hj
  have hkl := (gs q2).1
  have hrk : rates[k]? = some (rates[k]'(by omega)) := gq _
  generalize rates[k]'(by omega) = r at hrk
  have hst := i2 k r hrk
  have hrr := hrb k r hrk
  have hb := hsum_bnd (rate := x.Rate) (by omega) k (x.Hops.take j)
  rw [List.length_take] at hb
  unfold L.zvqh.B1
  rw [q1]
  refine .bind' (.eq (ix_nat hst) (.pure ?_))
  dsimp only
  rw [signed_eq (by omega)]
  have hsg : -1000 ≤ sgn x.Rate h ∧ sgn x.Rate h ≤ 1000 := by unfold sgn; split <;> omega
  rw [wr_id (by omega)]
  refine ⟨by simp [i1], fun k' r' hr' => ?_, fun v => ?_⟩
  ·rw [hsum_take hj, get_set]
   have hkl := (gs hst).1
   by_cases hkk : k = k'
   ·subst hkk
    rw [hr'] at hrk; simp at hrk; subst hrk
    rw [if_pos ⟨rfl, hkl⟩, if_pos q1]; congr 1; omega
   ·rw [if_neg (fun h => hkk h.1), if_neg (by omega), i2 k' r' hr']; simp
  ·rw [dot_set (wt_at v q2) hst, i3 v]
   have : (ind s.To v - ind s.From v) * (r + hsum x.Rate k (x.Hops.take j) + sgn x.Rate h - (r + hsum x.Rate k (x.Hops.take j))) = x.Rate * ind (nd (j + 1)) v - x.Rate * ind (nd j) v := by
    rw [show r + hsum x.Rate k (x.Hops.take j) + sgn x.Rate h - (r + hsum x.Rate k (x.Hops.take j)) = sgn x.Rate h by omega]
    unfold sgn
    rcases q4 with ⟨b, _, a1, a2⟩ | ⟨b, _, a1, a2⟩
    ·rw [b, a1, a2, if_neg (by simp), Int.sub_mul, Int.mul_comm, Int.mul_comm (ind (nd j) v)]
    ·rw [b, a1, a2, if_pos rfl, Int.sub_mul, Int.mul_neg, Int.mul_neg, Int.mul_comm, Int.mul_comm (ind (nd (j + 1)) v)]; omega
   rw [this]; omega
 rintro st ⟨i1, i2, i3⟩
 rw [List.take_length] at i2
 refine .pure ⟨i1, by simp, rfl, i2, fun k z hk => ?_, fun v => ?_⟩
 ·dsimp only
  unfold portOf
  rw [e1, e2, get_set, get_set]
  by_cases hko : o = k
  ·subst hko
   rw [hpo] at hk; simp at hk; subst hk
   rw [if_pos ⟨rfl, by simp; omega⟩, if_neg (by omega), if_pos rfl]; congr 1; omega
  ·rw [if_neg (fun h => hko h.1)]
   by_cases hki : i = k
   ·subst hki
    rw [hpi] at hk; simp at hk; subst hk
    rw [if_pos ⟨rfl, by omega⟩, if_pos rfl, if_neg (by omega)]; congr 1; omega
   ·rw [if_neg (fun h => hki h.1), if_neg (by omega), if_neg (by omega), hk]; simp
 ·dsimp only
  rw [i3 v, dot_set (wp_at v e4) hset, dot_set (wp_at v e3) hpi, e9, e10]
  have a1 : ind p0.Node v * (zi + x.Rate - zi) = x.Rate * ind p0.Node v := by rw [show zi + x.Rate - zi = x.Rate by omega, Int.mul_comm]
  have a2 : ind po.Node v * (zo - x.Rate - zo) = -(x.Rate * ind po.Node v) := by rw [show zo - x.Rate - zo = -x.Rate by omega, Int.mul_neg, Int.mul_comm]
  rw [a1, a2]; omega
theorem segSum_take {l : List Path} {k j : Nat} {x : Path} (h : l[j]? = some x) : segSum k (l.take (j + 1)) = segSum k (l.take j) + hsum x.Rate k x.Hops := by
 rw [List.take_add_one, h, segSum_append]; simp [segSum]
theorem portSum_take {l : List Path} {k j : Nat} {x : Path} (h : l[j]? = some x) : portSum k (l.take (j + 1)) = portSum k (l.take j) + portOf k x := by
 rw [List.take_add_one, h, portSum_append]; simp [portSum]
theorem segSum_bnd {n : Network} {p : Plan} (k : Nat) : ∀ {l : List Path}, (∀ x, x ∈ l → PathOk n p x) → -(5000 * (l.length : Int)) ≤ segSum k l ∧ segSum k l ≤ 5000 * (l.length : Int)
 | [], _ => by simp [segSum]
 | x :: l, h => by
  have ih := segSum_bnd k (l := l) fun y hy => h y (by simp [hy])
  obtain ⟨i, o, p0, po, y0, y1, nd, e1, e2, e3, e4, e5, e6, e7, e8, w, e9, e10, e11, e12, e13⟩ := h x (by simp)
  have := hsum_bnd (rate := x.Rate) (by omega) k x.Hops
  simp only [segSum, List.length_cons]; omega
theorem portSum_bnd {n : Network} {p : Plan} (k : Nat) : ∀ {l : List Path}, (∀ x, x ∈ l → PathOk n p x) → -(5000 * (l.length : Int)) ≤ portSum k l ∧ portSum k l ≤ 5000 * (l.length : Int)
 | [], _ => by simp [portSum]
 | x :: l, h => by
  have ih := portSum_bnd k (l := l) fun y hy => h y (by simp [hy])
  obtain ⟨i, o, p0, po, y0, y1, nd, e1, e2, e3, e4, e5, e6, e7, e8, w, e9, e10, e11, e12, e13⟩ := h x (by simp)
  simp only [portSum, portOf, List.length_cons]
  split <;> split <;> omega
theorem Divided.all {n : Network} {up : Bool} {p : Plan} {l : List Path} (h : Divided n up p l) : (∀ (k : Nat) (r : Int), p.Rates[k]? = some r → (0 ≤ r → 0 ≤ segSum k l ∧ segSum k l ≤ r) ∧ (r ≤ 0 → r ≤ segSum k l ∧ segSum k l ≤ 0)) ∧
  ∀ (k : Nat) (r : Int), p.Ports[k]? = some r → (0 ≤ r → 0 ≤ portSum k l ∧ portSum k l ≤ r) ∧ (r ≤ 0 → r ≤ portSum k l ∧ portSum k l ≤ 0) :=
 ⟨fun k r hr => by have := h.sumR k r hr; omega, fun k r hr => by have := h.sumP k r hr; omega⟩
theorem PathOk.small {n : Network} {p : Plan} {x : Path} (h : PathOk n p x) : x.Hops.length ≤ 5 ∧ 1 ≤ x.Rate ∧ x.Rate ≤ 1000 := by
 obtain ⟨i, o, p0, po, y0, y1, nd, e1, e2, e3, e4, e5, e6, e7, e8, w, e9, e10, e11, e12, e13⟩ := h
 exact ⟨e11, e12, e13⟩
theorem hsum_add (a b : Int) (k : Nat) : ∀ l : List Hop, hsum (a + b) k l = hsum a k l + hsum b k l
 | [] => by simp [hsum]
 | h :: l => by
  simp only [hsum, hsum_add a b k l]
  have : sgn (a + b) h = sgn a h + sgn b h := by unfold sgn; split <;> omega
  rw [this]; split <;> omega
theorem hsum_none (k : Nat) (l : List Hop) : hsum 0 k l = 0 := by
 have := hsum_add 0 0 k l
 simp at this
 omega
theorem PathOk.rated {n : Network} {p : Plan} {x : Path} (h : PathOk n p x) {r : Int} (hr : 1 ≤ r ∧ r ≤ 1000) : PathOk n p ⟨x.In, x.Out, x.Hops, r⟩ := by
 obtain ⟨i, o, p0, po, y0, y1, nd, e1, e2, e3, e4, e5, e6, e7, e8, w, e9, e10, e11, e12, e13⟩ := h
 exact ⟨i, o, p0, po, y0, y1, nd, e1, e2, e3, e4, e5, e6, e7, e8, w, e9, e10, e11, hr.1, hr.2⟩
theorem PathOk.sign {n : Network} {up : Bool} {p : Plan} (hr : Res n up p.Rates p.Ports) {x : Path} (hx : PathOk n p x) {k : Nat} {r : Int} (hk : p.Rates[k]? = some r) : (0 ≤ r → 0 ≤ hsum x.Rate k x.Hops) ∧ (r ≤ 0 → hsum x.Rate k x.Hops ≤ 0) := by
 have := hx.small
 rcases hx.over hr hk with ⟨_, e⟩ | ⟨_, _, ⟨e1, e⟩ | ⟨e1, e⟩⟩ <;> omega
theorem PathOk.psign {n : Network} {p : Plan} {x : Path} (hx : PathOk n p x) {k : Nat} {r : Int} (hk : p.Ports[k]? = some r) : (0 ≤ r → 0 ≤ portOf k x) ∧ (r ≤ 0 → portOf k x ≤ 0) := by
 obtain ⟨i, o, p0, po, y0, y1, nd, e1, e2, e3, e4, e5, e6, e7, e8, w, e9, e10, e11, e12, e13⟩ := hx
 unfold portOf
 rw [e1, e2]
 by_cases hi : i = k
 ·subst hi
  rw [e5] at hk; simp at hk; subst hk
  have : o ≠ i := by rintro rfl; rw [e5] at e7; simp at e7; omega
  rw [if_pos rfl, if_neg (by omega)]; omega
 ·rw [if_neg (by omega)]
  by_cases ho : o = k
  ·subst ho
   rw [e7] at hk; simp at hk; subst hk
   rw [if_pos rfl]; omega
  ·rw [if_neg (by omega)]; omega
theorem portOf_add (i : Nat) (a b : Int) (x : Path) : portOf i ⟨x.In, x.Out, x.Hops, a⟩ + portOf i ⟨x.In, x.Out, x.Hops, b⟩ = portOf i ⟨x.In, x.Out, x.Hops, a + b⟩ := by
 unfold portOf; dsimp only; split <;> split <;> omega
theorem portOf_none (i : Nat) (x : Path) : portOf i ⟨x.In, x.Out, x.Hops, 0⟩ = 0 := by unfold portOf; dsimp only; split <;> split <;> omega
def rated (u : Path) (r : Int) : Path := ⟨u.In, u.Out, u.Hops, r⟩
theorem equalHops {a b : List Hop} : Ok (L.zrak a b) fun r => r = true ↔ a = b := by
 unfold L.zrak
 refine Ok.iteU (fun h => .pure ?_) fun h => ?_
 ·simp only [Bool.false_eq_true, false_iff]; rintro rfl; exact h rfl
 have hl : a.length = b.length := by omega
 refine .bind' (.forL (fun k _ => ∀ j : Nat, j < k → a[j]? = b[j]?) (fun r => r = false ∧ a ≠ b) (fun j h => absurd h (Nat.not_lt_zero _)) ?_ ?_ ?_)
 ·intro k x _ hx hi
  have hkl := (gs hx).1
  have hb : b[k]? = some (b[k]'(by omega)) := gq _
  generalize b[k]'(by omega) = y at hb
  unfold L.zrak.B2
  refine .bind' (.eq (ix_nat hb) (Ok.iteN (fun h => .pure ⟨rfl, ?_⟩) fun h => .pure fun j hj => ?_))
  ·intro he; rw [he, hb] at hx; simp at hx; subst hx; simp at h
  ·have hxy : x = y := by
    simp at h
    cases x; cases y; simp_all
   by_cases hjk : j = k
   ·subst hjk; rw [hx, hb, hxy]
   ·exact hi j (by omega)
 ·intro _ hi
  simp only [Sum.elim_inl]
  unfold L.zrak.J1
  refine .pure ⟨fun _ => ?_, fun _ => rfl⟩
  refine List.ext_getElem? fun j => ?_
  by_cases hj : j < a.length
  ·exact hi j hj
  ·rw [List.getElem?_eq_none (by omega), List.getElem?_eq_none (by omega)]
 ·rintro _ ⟨rfl, h⟩
  exact .pure ⟨fun h' => (by cases h'), fun h' => absurd h' h⟩
def Alike (x y : Path) : Prop := x.In = y.In ∧ x.Out = y.Out ∧ x.Hops = y.Hops
theorem palike_ok {x y : Path} : Ok (L.ztke x y) fun r => r = true ↔ Alike x y := by
 unfold L.ztke L.ztke.J1
 refine Ok.iteE (fun h1 => Ok.iteE (fun h2 => .bind equalHops fun r hr => .pure ?_) fun h2 => .pure ?_) fun h1 => .pure ?_
 ·rw [hr]; exact ⟨fun h => ⟨h1, h2, h⟩, fun h => h.2.2⟩
 ·simp only [Bool.false_eq_true, false_iff]; exact fun h => h2 h.2.1
 ·simp only [Bool.false_eq_true, false_iff]; exact fun h => h1 h.1
theorem find_path {l : List Path} {p : Path} : Ok (L.zdhf l p) fun r => (r = -1 ∧ ∀ y, y ∈ l → ¬ Alike y p) ∨ ∃ (m : Nat) (y : Path), r = (m : Int) ∧ l[m]? = some y ∧ Alike y p := by
 unfold L.zdhf
 refine .bind (Q := fun r => (r = -1 ∧ ∀ y, y ∈ l → ¬ Alike y p) ∨ ∃ (m : Nat) (y : Path), r = (m : Int) ∧ l[m]? = some y ∧ Alike y p) ?_ fun r hr => .pure hr
 unfold L.zjqr
 refine .bind' (.forL (fun k _ => ∀ (j : Nat) (y : Path), j < k → l[j]? = some y → ¬ Alike y p) (fun r => ∃ (m : Nat) (y : Path), r = (m : Int) ∧ l[m]? = some y ∧ Alike y p) (fun j y h => absurd h (Nat.not_lt_zero _)) ?_ ?_ ?_)
 ·intro k x _ hx hi
  unfold L.zjqr.B2 L.zfog
  refine .bind (.bind palike_ok fun r hr => .pure hr) fun r hr => Ok.iteB (fun h => .pure ⟨k, x, rfl, hx, hr.1 h⟩) fun h => .pure fun j y hj hy => ?_
  by_cases hjk : j = k
  ·subst hjk
   rw [hx] at hy; simp at hy; subst hy
   intro ha
   have := hr.2 ha
   rw [h] at this; cases this
  ·exact hi j y (by omega) hy
 ·intro _ hi
  simp only [Sum.elim_inl]
  unfold L.zjqr.J1
  refine .pure (.inl ⟨rfl, fun y hy => ?_⟩)
  obtain ⟨j, hj⟩ := List.getElem?_of_mem hy
  exact hi j y (gs hj).1 hj
 ·rintro b hb
  exact .pure (.inr hb)
def tot (F : Path → Int → Int) : List Path → List Int → Int
 | u :: l, r :: rs => F u r + tot F l rs
 | _, _ => 0
def fs (k : Nat) (u : Path) (r : Int) : Int := hsum r k u.Hops
def FP (i : Nat) (u : Path) (r : Int) : Int := portOf i (rated u r)
theorem FS_add (k : Nat) (u : Path) (a b : Int) : fs k u (a + b) = fs k u a + fs k u b := hsum_add a b k u.Hops
theorem FS_zero (k : Nat) (u : Path) : fs k u 0 = 0 := hsum_none k u.Hops
theorem FP_add (k : Nat) (u : Path) (a b : Int) : FP k u (a + b) = FP k u a + FP k u b := (portOf_add k a b u).symm
theorem FP_zero (k : Nat) (u : Path) : FP k u 0 = 0 := portOf_none k u
theorem rated_self (u : Path) : rated u u.Rate = u := rfl
theorem tot_seg (k : Nat) : ∀ l : List Path, tot (fs k) l (l.map (·.Rate)) = segSum k l
 | [] => rfl
 | u :: l => by simp only [List.map_cons, tot, segSum, tot_seg k l, fs]
theorem tot_port (k : Nat) : ∀ l : List Path, tot (FP k) l (l.map (·.Rate)) = portSum k l
 | [] => rfl
 | u :: l => by simp only [List.map_cons, tot, portSum, tot_port k l, FP, rated_self]
theorem tot_le {F : Path → Int → Int} : ∀ {l : List Path} {rs ss : List Int}, rs.length = l.length → ss.length = l.length → (∀ (i : Nat) (u : Path) (r s : Int), l[i]? = some u → rs[i]? = some r → ss[i]? = some s → F u r ≤ F u s) → tot F l rs ≤ tot F l ss
 | [], [], [], _, _, _ => by simp [tot]
 | u :: l, r :: rs, s :: ss, h1, h2, h => by
  have h0 := h 0 u r s rfl rfl rfl
  have := tot_le (F := F) (l := l) (rs := rs) (ss := ss) (by simpa using h1) (by simpa using h2) fun i v a b x y z => h (i + 1) v a b (by simpa using x) (by simpa using y) (by simpa using z)
  simp only [tot]; omega
theorem tot_zero {F : Path → Int → Int} (h0 : ∀ u, F u 0 = 0) : ∀ l : List Path, tot F l (l.map fun _ => 0) = 0
 | [] => rfl
 | u :: l => by simp only [List.map_cons, tot, tot_zero h0 l, h0]; rfl
def ratesOf (n : Network) (l : List Path) (rs : List Int) : List Int := (List.range n.Segments.length).map fun k => tot (fs k) l rs
def portsOf (n : Network) (l : List Path) (rs : List Int) : List Int := (List.range n.Ports.length).map fun k => tot (FP k) l rs
def planOf (n : Network) (l : List Path) (rs : List Int) (pumps : List Bool) : Plan := ⟨ratesOf n l rs, portsOf n l rs, pumps⟩
theorem ratesOf_at {n : Network} {l : List Path} {rs : List Int} {k : Nat} (h : k < n.Segments.length) : (ratesOf n l rs)[k]? = some (tot (fs k) l rs) := by
 unfold ratesOf; rw [List.getElem?_map, List.getElem?_range h]; rfl
theorem portsOf_at {n : Network} {l : List Path} {rs : List Int} {k : Nat} (h : k < n.Ports.length) : (portsOf n l rs)[k]? = some (tot (FP k) l rs) := by
 unfold portsOf; rw [List.getElem?_map, List.getElem?_range h]; rfl
theorem ratesOf_len (n : Network) (l : List Path) (rs : List Int) : (ratesOf n l rs).length = n.Segments.length := by simp [ratesOf]
theorem portsOf_len (n : Network) (l : List Path) (rs : List Int) : (portsOf n l rs).length = n.Ports.length := by simp [portsOf]
theorem ratesOf_is {n : Network} {l : List Path} {rs : List Int} {k : Nat} {r : Int} (h : (ratesOf n l rs)[k]? = some r) : k < n.Segments.length ∧ r = tot (fs k) l rs := by
 have hk := (gs h).1
 rw [ratesOf_len] at hk
 rw [ratesOf_at hk] at h; simp at h
 exact ⟨hk, h.symm⟩
theorem portsOf_is {n : Network} {l : List Path} {rs : List Int} {k : Nat} {r : Int} (h : (portsOf n l rs)[k]? = some r) : k < n.Ports.length ∧ r = tot (FP k) l rs := by
 have hk := (gs h).1
 rw [portsOf_len] at hk
 rw [portsOf_at hk] at h; simp at h
 exact ⟨hk, h.symm⟩
structure Part (l : List Path) (rs : List Int) : Prop where
 len : rs.length = l.length
 rng : ∀ (i : Nat) (u : Path) (r : Int), l[i]? = some u → rs[i]? = some r → 0 ≤ r ∧ r ≤ u.Rate
def Les (rs ss : List Int) : Prop := ∀ (i : Nat) (r s : Int), rs[i]? = some r → ss[i]? = some s → r ≤ s
theorem Part.full {n : Network} {p : Plan} {l : List Path} (h : ∀ x, x ∈ l → PathOk n p x) : Part l (l.map (·.Rate)) := by
 refine ⟨by simp, fun i u r hu hr => ?_⟩
 rw [List.getElem?_map, hu] at hr; simp at hr
 have := (h u (mg hu)).small; omega
theorem Part.none {n : Network} {p : Plan} {l : List Path} (h : ∀ x, x ∈ l → PathOk n p x) : Part l (l.map fun _ => 0) := by
 refine ⟨by simp, fun i u r hu hr => ?_⟩
 rw [List.getElem?_map, hu] at hr; simp at hr
 have := (h u (mg hu)).small; omega
theorem Part.les_full {l : List Path} {rs : List Int} (h : Part l rs) : Les rs (l.map (·.Rate)) := by
 intro i r s hr hs
 rw [List.getElem?_map] at hs
 cases hu : l[i]? with
 | none => rw [hu] at hs; simp at hs
 | some u => rw [hu] at hs; simp at hs; have := h.rng i u r hu hr; omega
theorem Part.none_les {l : List Path} {rs : List Int} (h : Part l rs) : Les (l.map fun _ => 0) rs := by
 intro i r s hr hs
 rw [List.getElem?_map] at hr
 cases hu : l[i]? with
 | none => rw [hu] at hr; simp at hr
 | some u => rw [hu] at hr; simp at hr; have := h.rng i u s hu hs; omega
theorem Part.set {l : List Path} {rs : List Int} (h : Part l rs) {i : Nat} {u : Path} {x : Int} (hu : l[i]? = some u) (hx : 0 ≤ x ∧ x ≤ u.Rate) : Part l (rs.set i x) := by
 refine ⟨by simp [h.len], fun j v r hv hr => ?_⟩
 rw [get_set] at hr
 split at hr
 ·rename_i hij
  simp at hr; subst hr
  rw [← hij.1, hu] at hv; simp at hv; subst hv; exact hx
 ·exact h.rng j v r hv hr
theorem FS_sign {n : Network} {up : Bool} {p : Plan} (hr : Res n up p.Rates p.Ports) {u : Path} (hu : PathOk n p u) {k : Nat} {r : Int} (hk : p.Rates[k]? = some r) {x : Int} (hx : 0 ≤ x ∧ x ≤ 1000) : (0 ≤ r → 0 ≤ fs k u x) ∧ (r ≤ 0 → fs k u x ≤ 0) := by
 by_cases h0 : x = 0
 ·subst h0; rw [FS_zero]; omega
 ·exact (hu.rated (r := x) (by omega)).sign hr hk
theorem FP_sign {n : Network} {p : Plan} {u : Path} (hu : PathOk n p u) {k : Nat} {r : Int} (hk : p.Ports[k]? = some r) {x : Int} (hx : 0 ≤ x ∧ x ≤ 1000) : (0 ≤ r → 0 ≤ FP k u x) ∧ (r ≤ 0 → FP k u x ≤ 0) := by
 by_cases h0 : x = 0
 ·subst h0; rw [FP_zero]; omega
 ·exact (hu.rated (r := x) (by omega)).psign hk
theorem seg_mono {n : Network} {up : Bool} {p : Plan} {l : List Path} (hd : Divided n up p l) {rs ss : List Int} (h1 : Part l rs) (h2 : Part l ss) (hle : Les rs ss) {k : Nat} {r : Int} (hk : p.Rates[k]? = some r) :
  (0 ≤ r → tot (fs k) l rs ≤ tot (fs k) l ss) ∧ (r ≤ 0 → tot (fs k) l ss ≤ tot (fs k) l rs) := by
 have step : ∀ (i : Nat) (u : Path) (x y : Int), l[i]? = some u → rs[i]? = some x → ss[i]? = some y → (0 ≤ r → fs k u x ≤ fs k u y) ∧ (r ≤ 0 → fs k u y ≤ fs k u x) := by
  intro i u x y hu hx hy
  have a1 := h1.rng i u x hu hx; have a2 := h2.rng i u y hu hy; have a3 := hle i x y hx hy
  have hp := hd.paths u (mg hu)
  have := hp.small
  have e := FS_add k u x (y - x)
  rw [show x + (y - x) = y by omega] at e
  have := FS_sign hd.res hp hk (x := y - x) (by omega)
  omega
 exact ⟨fun h => tot_le h1.len h2.len fun i u x y a b c => (step i u x y a b c).1 h, fun h => tot_le h2.len h1.len fun i u x y a b c => (step i u y x a c b).2 h⟩
theorem port_mono {n : Network} {up : Bool} {p : Plan} {l : List Path} (hd : Divided n up p l) {rs ss : List Int} (h1 : Part l rs) (h2 : Part l ss) (hle : Les rs ss) {k : Nat} {r : Int} (hk : p.Ports[k]? = some r) :
  (0 ≤ r → tot (FP k) l rs ≤ tot (FP k) l ss) ∧ (r ≤ 0 → tot (FP k) l ss ≤ tot (FP k) l rs) := by
 have step : ∀ (i : Nat) (u : Path) (x y : Int), l[i]? = some u → rs[i]? = some x → ss[i]? = some y → (0 ≤ r → FP k u x ≤ FP k u y) ∧ (r ≤ 0 → FP k u y ≤ FP k u x) := by
  intro i u x y hu hx hy
  have a1 := h1.rng i u x hu hx; have a2 := h2.rng i u y hu hy; have a3 := hle i x y hx hy
  have hp := hd.paths u (mg hu)
  have := hp.small
  have e := FP_add k u x (y - x)
  rw [show x + (y - x) = y by omega] at e
  have := FP_sign hp hk (x := y - x) (by omega)
  omega
 exact ⟨fun h => tot_le h1.len h2.len fun i u x y a b c => (step i u x y a b c).1 h, fun h => tot_le h2.len h1.len fun i u x y a b c => (step i u y x a c b).2 h⟩
theorem seg_in {n : Network} {up : Bool} {p : Plan} {l : List Path} (hd : Divided n up p l) {rs : List Int} (h : Part l rs) {k : Nat} {r : Int} (hk : p.Rates[k]? = some r) :
  (0 ≤ r → 0 ≤ tot (fs k) l rs ∧ tot (fs k) l rs ≤ r) ∧ (r ≤ 0 → r ≤ tot (fs k) l rs ∧ tot (fs k) l rs ≤ 0) := by
 have a := seg_mono hd h (.full hd.paths) h.les_full hk
 have b := seg_mono hd (.none hd.paths) h h.none_les hk
 rw [tot_seg, ← hd.sumR k r hk] at a
 rw [tot_zero (FS_zero k)] at b
 omega
theorem port_in {n : Network} {up : Bool} {p : Plan} {l : List Path} (hd : Divided n up p l) {rs : List Int} (h : Part l rs) {k : Nat} {r : Int} (hk : p.Ports[k]? = some r) :
  (0 ≤ r → 0 ≤ tot (FP k) l rs ∧ tot (FP k) l rs ≤ r) ∧ (r ≤ 0 → r ≤ tot (FP k) l rs ∧ tot (FP k) l rs ≤ 0) := by
 have a := port_mono hd h (.full hd.paths) h.les_full hk
 have b := port_mono hd (.none hd.paths) h h.none_les hk
 rw [tot_port, ← hd.sumP k r hk] at a
 rw [tot_zero (FP_zero k)] at b
 omega
theorem FS_bnd {n : Network} {p : Plan} {u : Path} (hu : PathOk n p u) (k : Nat) {x : Int} (hx : 0 ≤ x ∧ x ≤ 1000) : -5000 ≤ fs k u x ∧ fs k u x ≤ 5000 := by
 have h := hsum_bnd hx k u.Hops
 have := hu.small
 unfold fs; omega
theorem FP_bnd (k : Nat) (u : Path) {x : Int} (hx : 0 ≤ x ∧ x ≤ 1000) : -5000 ≤ FP k u x ∧ FP k u x ≤ 5000 := by
 unfold FP portOf rated
 dsimp only
 split <;> split <;> omega
theorem tot_bnd {F : Path → Int → Int} : ∀ {l : List Path} {rs : List Int}, (∀ (i : Nat) (u : Path) (r : Int), l[i]? = some u → rs[i]? = some r → -5000 ≤ F u r ∧ F u r ≤ 5000) → -(5000 * (l.length : Int)) ≤ tot F l rs ∧ tot F l rs ≤ 5000 * (l.length : Int)
 | [], _, _ => by simp [tot]
 | _ :: _, [], _ => by simp [tot]; omega
 | u :: l, r :: rs, h => by
  have h0 := h 0 u r rfl rfl
  have := tot_bnd (F := F) (l := l) (rs := rs) fun i v s a b => h (i + 1) v s (by simpa using a) (by simpa using b)
  simp only [tot, List.length_cons]; omega
theorem bal_of {n : Network} {up : Bool} {p : Plan} (hr : Res n up p.Rates p.Ports) (v : Int) : ∀ {l : List Path} {rs : List Int}, (∀ x, x ∈ l → PathOk n p x) → l.length ≤ 100 → rs.length = l.length → (∀ r, r ∈ rs → 0 ≤ r ∧ r ≤ 1000) →
  dot (wt n v) (ratesOf n l rs) + dot (wp n v) (portsOf n l rs) = 0
 | [], rs, _, _, hl, _ => by
  have h1 : ratesOf n [] rs = List.replicate n.Segments.length 0 := by
   refine List.ext_getElem? fun k => ?_
   by_cases hk : k < n.Segments.length
   ·rw [ratesOf_at hk]; simp [tot, hk]
   ·rw [List.getElem?_eq_none (by rw [ratesOf_len]; omega), List.getElem?_eq_none (by simp; omega)]
  have h2 : portsOf n [] rs = List.replicate n.Ports.length 0 := by
   refine List.ext_getElem? fun k => ?_
   by_cases hk : k < n.Ports.length
   ·rw [portsOf_at hk]; simp [tot, hk]
   ·rw [List.getElem?_eq_none (by rw [portsOf_len]; omega), List.getElem?_eq_none (by simp; omega)]
  rw [h1, h2, dot_zero, dot_zero]; rfl
 | _ :: _, [], _, _, h, _ => by simp at h
 | u :: l, r :: rs, hp, hl, hlen, hrs => by
  have hl' : l.length + 1 ≤ 100 := by simpa using hl
  have hu := hp u (by simp)
  have hr0 := hrs r (by simp)
  have ih := bal_of hr v (l := l) (rs := rs) (fun x hx => hp x (by simp [hx])) (by omega) (by simpa using hlen) (fun x hx => hrs x (by simp [hx]))
  by_cases h0 : r = 0
  ·subst h0
   have h1 : ratesOf n (u :: l) (0 :: rs) = ratesOf n l rs := by unfold ratesOf; simp only [tot, FS_zero, Int.zero_add]
   have h2 : portsOf n (u :: l) (0 :: rs) = portsOf n l rs := by unfold portsOf; simp only [tot, FP_zero, Int.zero_add]
   rw [h1, h2]; exact ih
  ·have hb : ∀ (i : Nat) (w : Path) (s : Int), l[i]? = some w → rs[i]? = some s → 0 ≤ s ∧ s ≤ 1000 := fun i w s _ hs => hrs s (List.mem_cons_of_mem _ (mg hs))
   obtain ⟨q, _, g1, g2, _, g4, g5, g6⟩ := grow_ok (pumps := []) hr (hu.rated (r := r) (by omega)) (ratesOf_len n l rs) (portsOf_len n l rs)
    (fun k x hx => by
     obtain ⟨_, rfl⟩ := ratesOf_is hx
     have := tot_bnd (F := fs k) (l := l) (rs := rs) fun i w s a b => FS_bnd (hp w (List.mem_cons_of_mem _ (mg a))) k (hb i w s a b)
     omega)
    (fun k x hx => by
     obtain ⟨_, rfl⟩ := portsOf_is hx
     have := tot_bnd (F := FP k) (l := l) (rs := rs) fun i w s a b => FP_bnd k w (hb i w s a b)
     omega)
   rw [ratesOf_len] at g1
   rw [portsOf_len] at g2
   have e1 : q.Rates = ratesOf n (u :: l) (r :: rs) := by
    refine List.ext_getElem? fun k => ?_
    by_cases hk : k < n.Segments.length
    ·rw [g4 k _ (ratesOf_at hk), ratesOf_at hk]
     simp only [tot]; congr 1; exact Int.add_comm _ _
    ·rw [List.getElem?_eq_none (by omega), List.getElem?_eq_none (by rw [ratesOf_len]; omega)]
   have e2 : q.Ports = portsOf n (u :: l) (r :: rs) := by
    refine List.ext_getElem? fun k => ?_
    by_cases hk : k < n.Ports.length
    ·rw [g5 k _ (portsOf_at hk), portsOf_at hk]
     simp only [tot]; congr 1; exact Int.add_comm _ _
    ·rw [List.getElem?_eq_none (by omega), List.getElem?_eq_none (by rw [portsOf_len]; omega)]
   rw [← e1, ← e2, g6 v]; exact ih
theorem planOf_ok {n : Network} {up : Bool} {p : Plan} (hp : PlanOk n p) {l : List Path} (hd : Divided n up p l) {rs : List Int} (h : Part l rs) {pumps : List Bool} (hm : pumps.length = n.Stations.length) : PlanOk n (planOf n l rs pumps) := by
 have old : ∀ (k : Nat) (r : Int), (ratesOf n l rs)[k]? = some r → ∃ r0, p.Rates[k]? = some r0 ∧ (0 ≤ r0 → 0 ≤ r ∧ r ≤ r0) ∧ (r0 ≤ 0 → r0 ≤ r ∧ r ≤ 0) := fun k r hk => by
  obtain ⟨hl, rfl⟩ := ratesOf_is hk
  have h0 : p.Rates[k]? = some (p.Rates[k]'(by rw [hp.rl]; exact hl)) := gq _
  exact ⟨_, h0, seg_in hd h h0⟩
 refine ⟨ratesOf_len _ _ _, portsOf_len _ _ _, hm, fun k r s hk hs => ?_, fun k r hk => ?_, fun v => bal_of hd.res v hd.paths (by have := hd.count; omega) h.len fun r hr => ?_, ?_⟩
 ·obtain ⟨r0, a, b⟩ := old k r hk
  have := hp.rng k r0 s a hs
  omega
 ·obtain ⟨hl, rfl⟩ := portsOf_is hk
  have h0 : p.Ports[k]? = some (p.Ports[k]'(by rw [hp.pl]; exact hl)) := gq _
  have := port_in hd h h0
  have := hp.prt k _ h0
  omega
 ·obtain ⟨i, hi⟩ := List.getElem?_of_mem hr
  have hil := (gs hi).1
  have hu : l[i]? = some (l[i]'(by have := h.len; omega)) := gq _
  have := h.rng i _ r hu hi
  have := (hd.paths _ (mg hu)).small
  omega
 ·rcases hp.dir with hdir | hdir
  ·refine .inl fun k r s hk hs => ?_
   obtain ⟨r0, a, b⟩ := old k r hk
   have := hdir k r0 s a hs
   exact ⟨fun h => this.1 (by omega), fun h => this.2 (by omega)⟩
  ·refine .inr fun k r s hk hs => ?_
   obtain ⟨r0, a, b⟩ := old k r hk
   have := hdir k r0 s a hs
   exact ⟨fun h => this.1 (by omega), fun h => this.2 (by omega)⟩
instance (x y : Path) : Decidable (Alike x y) := by unfold Alike; infer_instance
theorem Alike.symm {x y : Path} (h : Alike x y) : Alike y x := ⟨h.1.symm, h.2.1.symm, h.2.2.symm⟩
theorem Alike.trans {x y z : Path} (h : Alike x y) (k : Alike y z) : Alike x z := ⟨h.1.trans k.1, h.2.1.trans k.2.1, h.2.2.trans k.2.2⟩
def mr : List Path → Path → Int
 | [], _ => 0
 | y :: l, u => if Alike y u then min u.Rate y.Rate else mr l u
def Apart : List Path → Prop
 | [] => True
 | u :: l => (∀ y, y ∈ l → ¬ Alike u y) ∧ Apart l
theorem Divided.apt {n : Network} {up : Bool} {p : Plan} {l : List Path} (h : Divided n up p l) : Apart l := by
 have : ∀ l : List Path, (∀ (i j : Nat) (x y : Path), i < j → l[i]? = some x → l[j]? = some y → ¬ (x.In = y.In ∧ x.Out = y.Out ∧ x.Hops = y.Hops)) → Apart l := by
  intro l
  induction l with
  | nil => intro _; trivial
  | cons u l ih =>
   intro h
   refine ⟨fun y hy => ?_, ih fun i j x y hij hx hy => h (i + 1) (j + 1) x y (by omega) (by simpa using hx) (by simpa using hy)⟩
   obtain ⟨j, hj⟩ := List.getElem?_of_mem hy
   exact h 0 (j + 1) u y (by omega) rfl (by simpa using hj)
 exact this l h.apart
theorem mr_none : ∀ {l : List Path} {u : Path}, (∀ y, y ∈ l → ¬ Alike y u) → mr l u = 0
 | [], _, _ => rfl
 | y :: l, u, h => by simp only [mr]; rw [if_neg (h y (by simp))]; exact mr_none fun z hz => h z (by simp [hz])
theorem mr_at : ∀ {l : List Path} {u : Path} {k : Nat} {y : Path}, Apart l → l[k]? = some y → Alike y u → mr l u = min u.Rate y.Rate
 | [], _, k, _, _, h, _ => by simp at h
 | z :: l, u, 0, y, _, h, ha => by simp at h; subst h; simp only [mr]; rw [if_pos ha]
 | z :: l, u, k + 1, y, hp, h, ha => by
  have hy : l[k]? = some y := by simpa using h
  simp only [mr]
  rw [if_neg fun hz => hp.1 y (mg hy) (hz.trans ha.symm)]
  exact mr_at hp.2 hy ha
theorem mr_rng : ∀ {l : List Path} {u : Path}, (∀ y, y ∈ l → 1 ≤ y.Rate) → 1 ≤ u.Rate → 0 ≤ mr l u ∧ mr l u ≤ u.Rate
 | [], _, _, h => by simp only [mr]; omega
 | y :: l, u, h, hu => by
  have := h y (by simp)
  have := mr_rng (l := l) (u := u) (fun z hz => h z (by simp [hz])) hu
  simp only [mr]; split <;> omega
theorem Part.common {n m : Network} {p q : Plan} {a b : List Path} (ha : ∀ x, x ∈ a → PathOk n p x) (hb : ∀ x, x ∈ b → PathOk m q x) : Part a (a.map (mr b)) := by
 refine ⟨by simp, fun i u r hu hr => ?_⟩
 rw [List.getElem?_map, hu] at hr; simp at hr; subst hr
 exact mr_rng (fun y hy => (hb y hy).small.2.1) (ha u (mg hu)).small.2.1
theorem FS_alike (k : Nat) (u v : Path) (r : Int) (h : Alike u v) : fs k u r = fs k v r := by unfold fs; rw [h.2.2]
theorem FP_alike (k : Nat) (u v : Path) (r : Int) (h : Alike u v) : FP k u r = FP k v r := by unfold FP portOf rated; dsimp only; rw [h.1, h.2.1]
def CS (n : Network) (rates : List Int) (k : Nat) (v : Int) : Prop := ∃ (i : Nat) (s : Segment) (r : Int), i < k ∧ n.Segments[i]? = some s ∧ rates[i]? = some r ∧ (0 < r ∧ s.To = v ∨ r < 0 ∧ s.From = v)
def CP (n : Network) (ports : List Int) (k : Nat) (v : Int) : Prop := ∃ (i : Nat) (p : Port) (x : Int), i < k ∧ n.Ports[i]? = some p ∧ p.Node = v ∧ ports[i]? = some x ∧ 0 < x
theorem CS_step {n : Network} {rates : List Int} {k : Nat} {v : Int} {s : Segment} {r : Int} (hs : n.Segments[k]? = some s) (hr : rates[k]? = some r) : CS n rates (k + 1) v ↔ CS n rates k v ∨ (0 < r ∧ s.To = v ∨ r < 0 ∧ s.From = v) := by
 constructor
 ·rintro ⟨i, s', r', h1, h2, h3, h4⟩
  by_cases h : i = k
  ·subst h; rw [hs] at h2; rw [hr] at h3; simp at h2 h3; subst h2; subst h3; exact .inr h4
  ·exact .inl ⟨i, s', r', by omega, h2, h3, h4⟩
 ·rintro (⟨i, s', r', h1, h2, h3, h4⟩ | h)
  ·exact ⟨i, s', r', by omega, h2, h3, h4⟩
  ·exact ⟨k, s, r, by omega, hs, hr, h⟩
theorem CP_step {n : Network} {ports : List Int} {k : Nat} {v : Int} {p : Port} {x : Int} (hs : n.Ports[k]? = some p) (hr : ports[k]? = some x) : CP n ports (k + 1) v ↔ CP n ports k v ∨ (p.Node = v ∧ 0 < x) := by
 constructor
 ·rintro ⟨i, s', r', h1, h2, h3, h4, h5⟩
  by_cases h : i = k
  ·subst h; rw [hs] at h2; rw [hr] at h4; simp at h2 h4; subst h2; subst h4; exact .inr ⟨h3, h5⟩
  ·exact .inl ⟨i, s', r', by omega, h2, h3, h4, h5⟩
 ·rintro (⟨i, s', r', h1, h2, h3, h4, h5⟩ | h)
  ·exact ⟨i, s', r', by omega, h2, h3, h4, h5⟩
  ·exact ⟨k, p, x, by omega, hs, h.1, hr, h.2⟩
theorem comes_iff {n : Network} (hn : NetOk n) {rates ports : List Int} (v : Int) : Comes n rates ports v ↔ CS n rates n.Segments.length v ∨ CP n ports n.Ports.length v := by
 constructor
 ·rintro (⟨i, p, x, h1, h2, h3, h4⟩ | ⟨i, s, r, h1, h2, _, h4⟩)
  ·exact .inr ⟨i, p, x, (gs h1).1, h1, h2, h3, h4⟩
  ·exact .inl ⟨i, s, r, (gs h1).1, h1, h2, h4⟩
 ·rintro (⟨i, s, r, _, h1, h2, h4⟩ | ⟨i, p, x, _, h1, h2, h3, h4⟩)
  ·exact .inr ⟨i, s, r, h1, h2, (hn.segs i s h1).ends.2.2.2.2, h4⟩
  ·exact .inl ⟨i, p, x, h1, h2, h3, h4⟩
theorem sums16_come {n : Network} (hn : NetOk n) {p : Plan} (h : FlowOk n p) (v : Int) : Ok (L.zeew n p v) fun r => 0 ≤ r.1 ∧ (r.1 ≠ 0 ↔ Comes n p.Rates p.Ports v) := by
 have h1 := hn.segs1; have h2 := hn.ports1; have h4 := h.rl; have h5 := h.pl
 unfold L.zeew
 refine .bind (.forS (fun k st => 0 ≤ st.1 ∧ st.1 ≤ 1000 * (k : Int) ∧ (st.1 ≠ 0 ↔ CS n p.Rates k v)) ⟨by simp, by simp, by simp [CS]⟩ ?_ fun st h => h) ?_
 ·rintro k s ⟨a, b⟩ hs ⟨i0, i1, i2⟩
  dsimp only at i0 i1 i2
  have hkl := (gs hs).1
  have hr : p.Rates[k]? = some p.Rates[k] := gq (by omega)
  have hrr := h.rng k _ s hr hs
  generalize p.Rates[k] = r at hr hrr
  rw [CS_step hs hr, ← i2]
  unfold L.zeew.B5
  refine .bind' (.eq (ix_nat hr) (Ok.iteE (fun h0 => ?_) fun h0 => ?_))
  ·dsimp only at h0
   refine .pure ⟨i0, by dsimp only; omega, ?_⟩
   dsimp only; constructor
   ·exact .inl
   ·rintro (h | h) <;> first | exact h | omega
  ·dsimp only at h0
   have j7 : ∀ c, Ok (L.zeew.J7 v s (a, b) (k, r) c) fun st => 0 ≤ st.1 ∧ st.1 ≤ 1000 * ((k + 1 : Nat) : Int) ∧ (st.1 ≠ 0 ↔ a ≠ 0 ∨ (0 < r ∧ s.To = v ∨ r < 0 ∧ s.From = v)) := by
    intro c
    unfold L.zeew.J7
    dsimp only
    rw [abs16 (by omega)]
    rcases endsOf (s := s) h0 with ⟨he, hr1⟩ | ⟨he, hr1⟩ <;> rw [show L.zdwa s r = L.ztzg s r from rfl, he] <;> dsimp only <;>
     refine Ok.iteE (fun hv => .pure ?_) fun hv => .pure ?_ <;> dsimp only <;> first
     | (rw [wr_id (by omega)]; exact ⟨by omega, by omega, by constructor <;> intro hh <;> omega⟩)
     | exact ⟨by omega, by omega, by constructor <;> intro hh <;> omega⟩
   exact Ok.iteE (fun _ => j7 _) fun _ => j7 _
 rintro ⟨a, b⟩ ⟨i0, i1, i2⟩
 dsimp only at i0 i1 i2
 unfold L.zeew.J1
 refine .bind (.forS (fun k st => 0 ≤ st.1 ∧ st.1 ≤ 1000 * (n.Segments.length : Int) + 1000 * (k : Int) ∧ (st.1 ≠ 0 ↔ CS n p.Rates n.Segments.length v ∨ CP n p.Ports k v)) ⟨i0, by dsimp only; omega, by dsimp only; rw [i2]; simp [CP]⟩ ?_ fun st h => h) ?_
 ·rintro k s ⟨a, b⟩ hs ⟨i0, i1, i2⟩
  dsimp only at i0 i1 i2
  have hkl := (gs hs).1
  have hr : p.Ports[k]? = some p.Ports[k] := gq (by omega)
  have hrr := h.prt k _ hr
  generalize p.Ports[k] = r at hr hrr
  rw [CP_step hs hr, ← or_assoc, ← i2]
  unfold L.zeew.B3
  refine Ok.iteE (fun hv => .bind' (.eq (ix_nat hr) (.pure ?_))) fun hv => .pure ?_
  ·dsimp only
   rw [wr_id (x := a + max 0 r) (by omega)]
   exact ⟨by omega, by omega, by constructor <;> intro hh <;> omega⟩
  ·dsimp only
   exact ⟨by omega, by omega, by constructor <;> intro hh <;> omega⟩
 rintro ⟨a, b⟩ ⟨i0, i1, i2⟩
 exact .pure ⟨i0, by rw [comes_iff hn]; exact i2⟩
theorem through16 {n : Network} (hn : NetOk n) {p : Plan} (h : FlowOk n p) {v : Int} (hv : 0 ≤ v ∧ v < (n.Nodes.length : Int)) : Ok (L.zcfu n p v) fun r => r.2 = 0 ∧ 0 ≤ r.1 ∧ (r.1 ≠ 0 ↔ Comes n p.Rates p.Ports v) := by
 unfold L.zcfu
 rw [check16 hn h]
 refine .bind' (.pure (Ok.iteU (fun h => absurd rfl h) fun _ => Ok.iteB (fun hb => ?_) fun _ => .bind (sums16_come hn h v) fun r hr => .pure ⟨rfl, hr⟩))
 simp at hb; omega
def inc (from_ to_ rate : Int) (v : Int) : Int := if rate < 0 then ind from_ v * (-rate) else ind to_ v * rate
theorem add_come {s : flow_streams} {b : Int} {f : Nat → Int} (h : Strm b s f) (hb : 0 ≤ b ∧ b ≤ 1000000) {from_ to_ rate : Int} (hf : from_ < 24) (ht : to_ < 24) (hft : -1 ≤ from_ ∧ -1 ≤ to_)
  (hr : -1000 ≤ rate ∧ rate ≤ 1000) : Ok (L.zuui s from_ to_ rate) fun r => ∀ v : Nat, v < 24 → val r.come v = val s.come v + inc from_ to_ rate v := by
 have main : ∀ (from_ to_ rate : Int), from_ < 24 → to_ < 24 → -1 ≤ from_ ∧ -1 ≤ to_ → 0 ≤ rate ∧ rate ≤ 1000 → Ok (L.zuui.J1 s (from_, to_, rate)) fun r => ∀ v : Nat, v < 24 → val r.come v = val s.come v + ind to_ v * rate := by
  intro from_ to_ rate hf ht hft hr
  have j2 : ∀ (lv : Arr Int 24), Ok (L.zuui.J2 s (from_, to_, rate) lv) fun r => ∀ v : Nat, v < 24 → val r.come v = val s.come v + ind to_ v * rate := by
   intro lv
   unfold L.zuui.J2
   refine Ok.iteD (fun h0 => ?_) fun h0 => .pure fun v hv => ?_
   ·dsimp only at h0
    obtain ⟨t, rfl⟩ := nat_of h0
    have hl := s.come.h
    refine .bind' (.ix t rfl (by omega) ?_)
    have hx : s.come.l[t]? = some s.come.l[t] := gq (by omega)
    have hvx := val_get hx
    have hcx := h.come t (by omega)
    dsimp only
    rw [wr_id (by omega)]
    refine .pure fun v hv => ?_
    dsimp only
    rw [val_set hv]
    by_cases htv : t = v
    ·subst htv; rw [if_pos rfl, ind_self]; omega
    ·rw [if_neg htv, ind_ne (a := (t : Int)) (by omega)]; omega
   ·dsimp only at h0 ⊢
    rw [ind_ne (a := to_) (by omega)]; omega
  unfold L.zuui.J1
  refine Ok.iteD (fun h0 => ?_) fun h0 => j2 _
  dsimp only at h0
  obtain ⟨t, rfl⟩ := nat_of h0
  have hl := s.leave.h
  exact .bind' (.ix t rfl (by omega) (j2 _))
 unfold L.zuui inc
 refine Ok.iteD (fun h0 => ?_) fun h0 => ?_
 ·rw [wr_id (by omega)]
  refine (main to_ from_ (0 - rate) ht hf ⟨hft.2, hft.1⟩ (by omega)).mono fun r hr v hv => ?_
  rw [hr v hv, if_pos h0, show 0 - rate = -rate by omega]
 ·refine (main _ _ _ hf ht hft (by omega)).mono fun r hr v hv => ?_
  rw [hr v hv, if_neg h0]
theorem inc_seg {a b r v : Int} : 0 ≤ inc a b r v ∧ (inc a b r v ≠ 0 ↔ (0 < r ∧ b = v ∨ r < 0 ∧ a = v)) := by
 unfold inc ind
 split <;> split <;> (constructor; omega; constructor <;> intro h <;> omega)
theorem sumsP_come {n : Network} (hn : NetOk n) {p : Plan} (h : FlowOk n p) : Ok (L.zzkf n p) fun r => ∀ v : Nat, v < 24 → 0 ≤ val r.come v ∧ (val r.come v ≠ 0 ↔ Comes n p.Rates p.Ports v) := by
 have h1 := hn.nodes; have h2 := hn.segs1; have h3 := hn.ports1; have h4 := h.rl; have h5 := h.pl
 unfold L.zzkf
 refine .bind (.forS (fun k st => (∃ f, Strm (1000 * k) ⟨st.1, st.2⟩ f) ∧ ∀ v : Nat, v < 24 → (val st.1 v ≠ 0 ↔ CS n p.Rates k v)) ⟨⟨fun _ => 0, fun v hv => ?_, fun v hv => ?_, fun v hv => ?_⟩, fun v hv => ?_⟩ ?_ fun st h => h) ?_
 ·dsimp only; rw [val_rep]; omega
 ·dsimp only; rw [val_rep]; omega
 ·dsimp only; rw [val_rep]; rfl
 ·dsimp only; rw [val_rep]; simp [CS]
 ·rintro k s st hs ⟨⟨f, hi⟩, hc⟩
  have hkl := (gs hs).1
  have hr : p.Rates[k]? = some p.Rates[k] := gq (by omega)
  have hrr := h.rng k _ s hr hs
  have he := (hn.segs k s hs).ends
  unfold L.zzkf.B4
  refine .bind' (.ix k rfl (by omega) (.bind ((add_ok hi (by omega) (by omega) (by omega) (by omega) (by dsimp only; omega)).and (add_come hi (by omega) (by omega) (by omega) (by omega) (by dsimp only; omega))) fun r hr2 => .pure ⟨⟨_, fun v hv => ?_, fun v hv => ?_, fun v hv => hr2.1.diff v hv⟩, fun v hv => ?_⟩))
  ·have := hr2.1.come v hv; dsimp only; omega
  ·have := hr2.1.leave v hv; dsimp only; omega
  ·have a := hr2.2 v hv
   dsimp only at a ⊢
   have b := hi.come v hv
   dsimp only at b
   have c := inc_seg (a := s.From) (b := s.To) (r := p.Rates[k]) (v := v)
   rw [CS_step hs hr, ← hc v hv, ← c.2, a]
   constructor <;> intro hh <;> omega
 ·rintro st ⟨⟨f, hi⟩, hc⟩
  unfold L.zzkf.J1
  refine .bind (.forS (fun k st => (∃ f, Strm (8000 + 1000 * k) ⟨st.1, st.2⟩ f) ∧ ∀ v : Nat, v < 24 → (val st.1 v ≠ 0 ↔ CS n p.Rates n.Segments.length v ∨ CP n p.Ports k v)) ⟨⟨f, fun v hv => ?_, fun v hv => ?_, fun v hv => hi.diff v hv⟩, fun v hv => ?_⟩ ?_ fun st h => h) ?_
  ·have := hi.come v hv; dsimp only at this ⊢; omega
  ·have := hi.leave v hv; dsimp only at this ⊢; omega
  ·dsimp only; rw [hc v hv]; simp [CP]
  ·rintro k s st hs ⟨⟨f, hi⟩, hc⟩
   have hkl := (gs hs).1
   have hr : p.Ports[k]? = some p.Ports[k] := gq (by omega)
   have hrr := h.prt k _ hr
   have he := (hn.ports k s hs).node
   unfold L.zzkf.B3
   refine .bind' (.ix k rfl (by omega) (.bind ((add_ok hi (by omega) (by omega) (by omega) (by omega) (by dsimp only; omega)).and (add_come hi (by omega) (by omega) (by omega) (by omega) (by dsimp only; omega))) fun r hr2 => .pure ⟨⟨_, fun v hv => ?_, fun v hv => ?_, fun v hv => hr2.1.diff v hv⟩, fun v hv => ?_⟩))
   ·have := hr2.1.come v hv; dsimp only; omega
   ·have := hr2.1.leave v hv; dsimp only; omega
   ·have a := hr2.2 v hv
    dsimp only at a ⊢
    have b := hi.come v hv
    dsimp only at b
    have c := inc_seg (a := -1) (b := s.Node) (r := p.Ports[k]) (v := v)
    rw [CP_step hs hr, ← or_assoc, ← hc v hv, a]
    have c2 := c.2
    constructor <;> intro hh
    ·by_cases h0 : val st.1 v = 0
     ·rcases c2.1 (by omega) with h | h
      ·exact .inr ⟨h.2, h.1⟩
      ·omega
     ·exact .inl h0
    ·rcases hh with hh | ⟨hh1, hh2⟩
     ·omega
     ·have := c2.2 (.inl ⟨hh2, hh1⟩); omega
  ·rintro st ⟨⟨f, hi⟩, hc⟩
   refine .pure fun v hv => ⟨(hi.come v hv).1, ?_⟩
   rw [comes_iff hn]; exact hc v hv
theorem throughP {n : Network} (hn : NetOk n) {p : Plan} (h : FlowOk n p) {v : Int} (hv : 0 ≤ v ∧ v < (n.Nodes.length : Int)) : Ok (L.zkoo n p v) fun r => r.2 = 0 ∧ (r.1 ≠ 0 ↔ Comes n p.Rates p.Ports v) := by
 have h1 := hn.nodes
 unfold L.zkoo
 rw [flowCheckF hn h]
 refine .bind' (.pure (Ok.iteU (fun h => absurd rfl h) fun _ => Ok.iteB (fun hb => ?_) fun _ => .bind (sumsP_come hn h) fun r hr => ?_))
 ·simp at hb; omega
 obtain ⟨k, rfl⟩ := nat_of hv.1
 have hl := r.come.h
 have hx : r.come.l[k]? = some r.come.l[k] := gq (by omega)
 refine .bind' (.eq (ix_nat hx) (.pure ⟨rfl, ?_⟩))
 dsimp only
 rw [← val_get hx]
 exact (hr k (by omega)).2
def FedP (n : Network) (p : Plan) : Prop := ∀ (i : Nat) (st : Station), n.Stations[i]? = some st → p.Pumps[i]? = some true → Comes n p.Rates p.Ports st.Node
theorem leaves_ok {n : Network} (hn : NetOk n) {p : Plan} (h : FlowOk n p) {i : Nat} {st : Station} (hs : n.Stations[i]? = some st) : Ok (L.zdjk n p (i : Int)) fun r => r = true ↔ Comes n p.Rates p.Ports st.Node := by
 unfold L.zdjk
 refine .bind' (.eq (ix_nat hs) (.bind (throughP hn h (hn.sts i st hs).node) fun r hr => .pure ?_))
 rw [hr.1, ← hr.2]
 simp
theorem Leaves_ok {n : Network} (hn : NetOk n) {p : Plan} (h : FlowOk n p) {i : Nat} {st : Station} (hs : n.Stations[i]? = some st) : Ok (L.zvla n p (i : Int)) fun r => r = true ↔ Comes n p.Rates p.Ports st.Node :=
 .bind (leaves_ok hn h hs) fun r hr => .pure hr
theorem idles_ok {n : Network} (hn : NetOk n) {p : Plan} (h : FlowOk n p) (hf : FedP n p) : L.zoxj n p = some false := by
 have : Ok (L.zoxj n p) fun r => r = false := by
  unfold L.zoxj
  refine .bind' (.forL (fun _ _ => True) (fun _ => False) trivial ?_ (fun _ _ => .pure rfl) fun _ h => h.elim)
  intro k x _ hx _
  have hkl := (gs hx).1
  have hml := h.ml
  unfold L.zoxj.B2
  refine Ok.iteB (fun hb => Ok.iteD (fun hlt => ?_) fun _ => .pure trivial) fun _ => .pure trivial
  have hs : n.Stations[k]? = some n.Stations[k] := gq (by omega)
  refine .bind (leaves_ok hn h hs) fun r hr => ?_
  have := hr.2 (hf k _ hs (by rw [hx, hb]))
  subst this
  exact .pure trivial
 obtain ⟨r, h, rfl⟩ := this
 exact h
end Go.Proofs.YtmaamhgjeampmaaGreat
