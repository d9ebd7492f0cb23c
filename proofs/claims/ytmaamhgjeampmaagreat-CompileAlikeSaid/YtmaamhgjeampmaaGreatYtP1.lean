/- Plain proofs. No condition. -/
import Derived.Test.YtmaamhgjeampmaaGreatYtP0
import Derived.Test.YtmaamhgjeampmaaGreatYtD
import Derived.KernelRfl
set_option maxRecDepth 100000
namespace Go.Proofs.YtmaamhgjeampmaaGreat
set_option linter.unusedVariables false
set_option linter.unusedSimpArgs false
open Go.Aw
def Lt (up : Bool) (a b : Int) : Prop := if up = true then a < b else b < a
theorem Lt.ne {up : Bool} {a b : Int} (h : Lt up a b) : a ≠ b := by unfold Lt at h; split at h <;> omega
theorem Lt.trans {up : Bool} {a b c : Int} (h : Lt up a b) (k : Lt up b c) : Lt up a c := by
 cases up <;> simp only [Lt, if_true] at * <;> first | omega | (simp at *; omega)
structure Res (n : Network) (up : Bool) (rates ports : List Int) : Prop where
 rl : rates.length = n.Segments.length
 pl : ports.length = n.Ports.length
 rng : ∀ (k : Nat) (r : Int) (s : Segment), rates[k]? = some r → n.Segments[k]? = some s → -1000 ≤ r ∧ r ≤ 1000 ∧ (0 < r → Lt up s.From s.To) ∧ (r < 0 → Lt up s.To s.From)
 prt : ∀ (k : Nat) (x : Int), ports[k]? = some x → -1000 ≤ x ∧ x ≤ 1000
 bal : ∀ v, Fl (wt n v) rates + Fl (wp n v) ports = 0
theorem PlanOk.res {n : Network} {p : Plan} (h : PlanOk n p) : ∃ up, Res n up p.Rates p.Ports := by
 rcases h.dir with M | M
 ·exact ⟨true, h.rl, h.pl, fun k r s D G => ⟨(h.rng k r s D G).1, (h.rng k r s D G).2.1, (M k r s D G).1, (M k r s D G).2⟩, h.prt, h.bal⟩
 ·exact ⟨false, h.rl, h.pl, fun k r s D G => ⟨(h.rng k r s D G).1, (h.rng k r s D G).2.1, fun h => by have := (M k r s D G).1 h; simpa [Lt] using this, fun h => by have := (M k r s D G).2 h; simpa [Lt] using this⟩, h.prt, h.bal⟩
theorem Ix : ∀ {w l : List Int}, (∀ (k : Nat) (a x : Int), w[k]? = some a → l[k]? = some x → 0 ≤ a * x) → 0 ≤ Fl w l
 | [], _, _ => by simp [Fl]
 | _ :: _, [], _ => by simp [Fl]
 | a :: w, x :: l, h => by
  have D := h 0 a x rfl rfl
  have := Ix (w := w) (l := l) fun k b y hb hy => h (k + 1) b y (by simpa using hb) (by simpa using hy)
  simp only [Fl]; omega
theorem Uj : ∀ {w l : List Int} {k : Nat} {a x : Int}, (∀ (k : Nat) (a x : Int), w[k]? = some a → l[k]? = some x → 0 ≤ a * x) → w[k]? = some a → l[k]? = some x → 0 < a * x → 0 < Fl w l
 | [], _, k, _, _, _, h, _, _ => by simp at h
 | _ :: _, [], k, _, _, _, _, h, _ => by simp at h
 | a :: w, x :: l, 0, b, y, h, hb, hy, hp => by
  simp at hb hy; subst hb; subst hy
  have := Ix (w := w) (l := l) fun k b y hb hy => h (k + 1) b y (by simpa using hb) (by simpa using hy)
  simp only [Fl]; omega
 | a :: w, x :: l, k + 1, b, y, h, hb, hy, hp => by
  have D := h 0 a x rfl rfl
  have := Uj (w := w) (l := l) (k := k) (fun k b y hb hy => h (k + 1) b y (by simpa using hb) (by simpa using hy)) (by simpa using hb) (by simpa using hy) hp
  simp only [Fl]; omega
theorem Xr {n : Network} {k : Nat} {s : Segment} (v : Int) (h : n.Segments[k]? = some s) : (wt n v)[k]? = some (ind s.To v - ind s.From v) := by unfold wt; rw [List.getElem?_map, h]; rfl
theorem R2 {n : Network} {k : Nat} {p : Port} (v : Int) (h : n.Ports[k]? = some p) : (wp n v)[k]? = some (ind p.Node v) := by unfold wp; rw [List.getElem?_map, h]; rfl
def E4 (n : Network) (rates ports : List Int) (v : Int) : Prop :=
 (∃ (i : Nat) (p : Port) (x : Int), n.Ports[i]? = some p ∧ p.Node = v ∧ ports[i]? = some x ∧ 0 < x) ∨
 ∃ (k : Nat) (s : Segment) (r : Int), n.Segments[k]? = some s ∧ rates[k]? = some r ∧ s.From ≠ s.To ∧ (0 < r ∧ s.To = v ∨ r < 0 ∧ s.From = v)
theorem Wj {n : Network} {up : Bool} {rates ports : List Int} {v : Int} (h : Res n up rates ports) (hc : E4 n rates ports v) (hp : ∀ (i : Nat) (p : Port) (x : Int), n.Ports[i]? = some p → p.Node = v → ports[i]? = some x → 0 ≤ x)
  (hs : ∀ (k : Nat) (s : Segment) (r : Int), n.Segments[k]? = some s → rates[k]? = some r → ¬ (0 < r ∧ s.From = v) ∧ ¬ (r < 0 ∧ s.To = v)) : False := by
 have b := h.bal v
 have w1 : ∀ (k : Nat) (a x : Int), (wt n v)[k]? = some a → rates[k]? = some x → 0 ≤ a * x := by
  intro k a x G hx
  have X := (gs hx).1
  have D : n.Segments[k]? = some (n.Segments[k]'(by have := h.rl; omega)) := gq _
  generalize n.Segments[k]'(by have := h.rl; omega) = s at D
  rw [Xr v D] at G; simp at G; subst G
  obtain ⟨n1, n2⟩ := hs k s x D hx
  unfold ind
  by_cases M : s.To = v <;> by_cases Y : s.From = v <;> simp [M, Y]
  ·have : ¬ x < 0 := fun h => n2 ⟨h, M⟩
   omega
  ·have : ¬ 0 < x := fun h => n1 ⟨h, Y⟩
   omega
 have w2 : ∀ (k : Nat) (a x : Int), (wp n v)[k]? = some a → ports[k]? = some x → 0 ≤ a * x := by
  intro k a x G hx
  have X := (gs hx).1
  have D : n.Ports[k]? = some (n.Ports[k]'(by have := h.pl; omega)) := gq _
  generalize n.Ports[k]'(by have := h.pl; omega) = s at D
  rw [R2 v D] at G; simp at G; subst G
  unfold ind
  by_cases M : s.Node = v
  ·have := hp k s x D M hx
   simp [M]; exact this
  ·simp [M]
 rcases hc with ⟨i, p, x, h1, h2, Z, h4⟩ | ⟨k, s, r, h1, h2, Z, h4⟩
 ·have := Uj w2 (R2 v h1) Z (by rw [h2, Fg]; omega)
  have := Ix w1
  omega
 ·have O : 0 < (ind s.To v - ind s.From v) * r := by
   rcases h4 with ⟨h5, W⟩ | ⟨h5, W⟩
   ·rw [W, Fg, Gh (by omega)]; omega
   ·rw [W, Fg, Gh (by omega)]; omega
  have := Uj w1 (Xr v h1) h2 O
  have := Ix w2
  omega
def HopIs (n : Network) (rates : List Int) (a : Int) (h : Hop) (b : Int) : Prop :=
 ∃ (k : Nat) (s : Segment) (r : Int), h.Segment = (k : Int) ∧ n.Segments[k]? = some s ∧ rates[k]? = some r ∧ (h.Back = false ∧ 0 < r ∧ s.From = a ∧ s.To = b ∨ h.Back = true ∧ r < 0 ∧ s.To = a ∧ s.From = b)
def dJ (rates : List Int) (h : Hop) : Int := max (rates.getD h.Segment.toNat 0) (-rates.getD h.Segment.toNat 0)
structure WayIs (n : Network) (rates : List Int) (hops : List Hop) (nd : Nat → Int) : Prop where
 hop : ∀ (j : Nat) (h : Hop), hops[j]? = some h → HopIs n rates (nd j) h (nd (j + 1))
theorem Mn {rates : List Int} {h : Hop} {k : Nat} {r : Int} (h1 : h.Segment = (k : Int)) (h2 : rates[k]? = some r) : dJ rates h = max r (-r) := by
 unfold dJ
 rw [h1, List.getD_eq_getElem?_getD, Int.toNat_natCast, h2]; rfl
theorem WayIs.snoc {n : Network} {rates : List Int} {hops : List Hop} {nd : Nat → Int} (w : WayIs n rates hops nd) {h : Hop} {t : Int} (M : HopIs n rates (nd hops.length) h t) :
  WayIs n rates (hops ++ [h]) (fun i => if i ≤ hops.length then nd i else t) := by
 refine ⟨fun j G D => ?_⟩
 rw [List.getElem?_append] at D
 split at D
 ·rename_i O
  have := w.hop j G D
  rw [if_pos (by omega), if_pos (by omega)]; exact this
 ·have hb := (gs D).1
  simp at hb
  have : j = hops.length := by omega
  subst this
  simp at D; subst D
  rw [if_pos (by omega), if_neg (by omega)]; exact M
theorem HopIs.lt {n : Network} {up : Bool} {rates ports : List Int} (h : Res n up rates ports) {a b : Int} {x : Hop} (hx : HopIs n rates a x b) : Lt up a b := by
 obtain ⟨k, s, r, h1, h2, G, M⟩ := hx
 have := h.rng k r s G h2
 rcases M with ⟨_, D, rfl, rfl⟩ | ⟨_, D, rfl, rfl⟩
 ·exact this.2.2.1 D
 ·exact this.2.2.2 D
theorem WayIs.mono {n : Network} {up : Bool} {rates ports : List Int} (h : Res n up rates ports) {hops : List Hop} {nd : Nat → Int} (w : WayIs n rates hops nd) : ∀ (j i : Nat), i < j → j ≤ hops.length → Lt up (nd i) (nd j) := by
 intro j
 induction j with
 | zero => intro i hi; omega
 | succ j ih =>
  intro i hi G
  have hl := (w.hop j hops[j] (gq (by omega))).lt h
  by_cases D : i = j
  ·subst D; exact hl
  ·exact (ih i (by omega) (by omega)).trans hl
def We (n : Network) (up : Bool) (v : Int) : Nat := if up = true then n.Nodes.length - v.toNat else v.toNat + 1
theorem T1 {n : Network} {up : Bool} {a b : Int} (G : 0 ≤ a ∧ a < (n.Nodes.length : Int)) (hb : 0 ≤ b ∧ b < (n.Nodes.length : Int)) (h : Lt up a b) : We n up b < We n up a := by
 unfold Lt at h
 unfold We
 split at h <;> rename_i D <;> simp only [D, if_true, if_false] <;> first | omega | (simp; omega)
structure Walk (n : Network) (up : Bool) (rates ports : List Int) (x0 s0 : Int) (hops : List Hop) (rate t : Int) : Prop where
 way : ∃ nd, WayIs n rates hops nd ∧ nd 0 = s0 ∧ nd hops.length = t
 at_ : 0 ≤ t ∧ t < (n.Nodes.length : Int)
 len : hops.length + We n up t ≤ n.Nodes.length
 rt : 1 ≤ rate ∧ rate ≤ x0
 most : ∀ h, h ∈ hops → rate ≤ dJ rates h
 tight : rate = x0 ∨ ∃ h, h ∈ hops ∧ rate = dJ rates h
 comes : E4 n rates ports t
theorem iP {n : Network} (hn : NetOk n) {up : Bool} {rates ports : List Int} (h : Res n up rates ports) {i0 : Nat} {p0 : Port} {x0 : Int} (hp0 : n.Ports[i0]? = some p0) (hx0 : ports[i0]? = some x0) (hpos : 0 < x0) :
  Ok (Ch (Jo.B4 ⟨n, rates, ports⟩) Dm ([], x0, p0.Node)) fun d => ∃ (G : Nat) (p : Port) (y rate : Int), d.1 = (G : Int) ∧ n.Ports[G]? = some p ∧ ports[G]? = some y ∧ y < 0 ∧ Walk n up rates ports x0 p0.Node d.2.1 rate p.Node ∧ d.2.2 = min rate (-y) := by
 have hnn := hn.nodes; have hsn := hn.segs1
 have hxr := h.prt i0 x0 hx0
 have hpn := (hn.ports i0 p0 hp0).node
 refine .loop (fun st : List Hop × Int × Int => Walk n up rates ports x0 p0.Node st.1 st.2.1 st.2.2) (fun st => We n up st.2.2) ⟨⟨fun _ => p0.Node, ⟨by simp⟩, rfl, rfl⟩, hpn, ?_, by dsimp only; omega, by simp, .inl rfl, .inl ⟨i0, p0, x0, hp0, rfl, hx0, hpos⟩⟩ ?_ ?_
 ·dsimp only [List.length_nil]
  unfold We; split <;> omega
 ·dsimp only
  unfold We; split <;> omega
 rintro ⟨hops, rate, at_⟩ w
 dsimp only at w
 obtain ⟨nd, w1, w2, w3⟩ := w.way
 have hlen := w.len
 have hrate := w.rt
 have hat := w.at_
 unfold Jo.B4
 refine .bind' (.forL (fun k _ => ∀ (i : Nat) (p : Port) (x : Int), i < k → n.Ports[i]? = some p → p.Node = at_ → ports[i]? = some x → 0 ≤ x)
  (fun d : Int × List Hop × Int => ∃ (G : Nat) (p : Port) (y : Int), d.1 = (G : Int) ∧ n.Ports[G]? = some p ∧ ports[G]? = some y ∧ y < 0 ∧ p.Node = at_ ∧ d.2.1 = hops ∧ d.2.2 = min rate (-y)) (fun i _ _ h => absurd h (Nat.not_lt_zero _)) ?_ ?_ ?_)
 ·intro k p _ D hi
  dsimp only at D
  have hkl := (gs D).1
  have hx : ports[k]? = some (ports[k]'(by have := h.pl; omega)) := gq _
  generalize ports[k]'(by have := h.pl; omega) = x at hx
  have hxr := h.prt k x hx
  have no : (p.Node = at_ → 0 ≤ x) → Ok (Jo.J11 ⟨n, rates, ports⟩ (hops, rate, at_) k false) (Sum.elim (fun _ : Unit => ∀ (i : Nat) (p : Port) (x : Int), i < k + 1 → n.Ports[i]? = some p → p.Node = at_ → ports[i]? = some x → 0 ≤ x)
    fun d : Int × List Hop × Int => ∃ (G : Nat) (p : Port) (y : Int), d.1 = (G : Int) ∧ n.Ports[G]? = some p ∧ ports[G]? = some y ∧ y < 0 ∧ p.Node = at_ ∧ d.2.1 = hops ∧ d.2.2 = min rate (-y)) := by
   intro ab
   unfold Jo.J11
   refine .pure fun i q y hik hq hqn hy => ?_
   by_cases aa : i = k
   ·subst aa
    rw [D] at hq; simp at hq; subst hq
    rw [hx] at hy; simp at hy; subst hy
    exact ab hqn
   ·exact hi i q y (by omega) hq hqn hy
  unfold Jo.B10
  refine Cc (fun he => .bind' (.eq (Bd hx) ?_)) fun he => no fun h => absurd h he
  dsimp only
  by_cases M : x < 0
  ·simp only [M, decide_true]
   unfold Jo.J11
   refine .bind' (.eq (Bd hx) (.pure ⟨k, p, x, rfl, D, hx, M, he, rfl, ?_⟩))
   dsimp only
   rw [Bg (by omega), Int.zero_sub]
  ·simp only [M, decide_false]
   exact no fun _ => by omega
 ·intro _ O
  dsimp only at O
  simp only [Sum.elim_inl]
  unfold Jo.J5
  refine .bind' (.forL (fun k _ => ∀ (i : Nat) (s : Segment) (r : Int), i < k → n.Segments[i]? = some s → rates[i]? = some r → ¬ (0 < r ∧ s.From = at_) ∧ ¬ (r < 0 ∧ s.To = at_))
   (fun d : List Hop × Int × Int => ∃ (D : Hop), HopIs n rates at_ D d.2.2 ∧ d.1 = hops ++ [D] ∧ d.2.1 = min rate (dJ rates D)) (fun i _ _ h => absurd h (Nat.not_lt_zero _)) ?_ ?_ ?_)
  ·intro k s _ X hi
   dsimp only at X
   have hkl := (gs X).1
   have Z : rates[k]? = some (rates[k]'(by have := h.rl; omega)) := gq _
   generalize rates[k]'(by have := h.rl; omega) = r at Z
   have hrr := h.rng k r s Z X
   unfold Jo.B7 Jo.J8 Jo.J9
   refine .bind' (.eq (Bd Z) (A9 (fun hb => .bind' (.app (by simp; omega) (.pure ?_))) fun hb1 => A9 (fun hb => .bind' (.app (by simp; omega) (.pure ?_))) fun hb2 => .pure fun i s' r' hik Y W => ?_))
   ·simp at hb
    refine ⟨⟨(k : Int), false⟩, ⟨k, s, r, rfl, X, Z, .inl ⟨rfl, hb.1, hb.2, rfl⟩⟩, rfl, ?_⟩
    rw [Mn (k := k) rfl Z]
    dsimp only
    rw [show max r (-r) = r by omega]
   ·simp at hb
    refine ⟨⟨(k : Int), true⟩, ⟨k, s, r, rfl, X, Z, .inr ⟨rfl, hb.1, hb.2, rfl⟩⟩, rfl, ?_⟩
    rw [Mn (k := k) rfl Z]
    dsimp only
    rw [Bg (by omega), show max r (-r) = 0 - r by omega]
   ·by_cases aa : i = k
    ·subst aa
     rw [X] at Y; simp at Y; subst Y
     rw [Z] at W; simp at W; subst W
     simp at hb1 hb2
     exact ⟨fun h => hb1 h.1 h.2, fun h => hb2 h.1 h.2⟩
    ·exact hi i s' r' (by omega) Y W
  ·intro _ ab
   exact (Wj h w.comes (fun i p x D => O i p x (gs D).1 D) fun k s r X => ab k s r (gs X).1 X).elim
  ·rintro ⟨ac, ad, to'⟩ ⟨D, hh, e1, e2⟩
   dsimp only at hh e1 e2
   subst e1; subst e2
   have hh' := hh
   have hlt := hh.lt h
   obtain ⟨k, s, r, q1, q2, q3, q4⟩ := hh
   have hse := (hn.segs k s q2).ends
   have hto : 0 ≤ to' ∧ to' < (n.Nodes.length : Int) := by rcases q4 with ⟨_, _, _, q⟩ | ⟨_, _, _, q⟩ <;> omega
   have hfar := T1 hat hto hlt
   have hamt : 1 ≤ dJ rates D := by rw [Mn q1 q3]; rcases q4 with ⟨_, q, _, _⟩ | ⟨_, q, _, _⟩ <;> omega
   refine .pure ⟨⟨⟨_, w1.snoc (by rw [w3]; exact hh'), by simp [w2], by simp; omega⟩, hto, by simp; omega, by dsimp only; omega, fun x hx => ?_, ?_, .inr ⟨k, s, r, q2, q3, by omega, ?_⟩⟩, hfar⟩
   ·rcases List.mem_append.1 hx with hx | hx
    ·have := w.most x hx; dsimp only; omega
    ·simp at hx; subst hx; dsimp only; omega
   ·dsimp only
    by_cases hle : rate ≤ dJ rates D
    ·rw [show min rate (dJ rates D) = rate by omega]
     rcases w.tight with ht | ⟨x, hx, ht⟩
     ·exact .inl ht
     ·exact .inr ⟨x, by simp [hx], ht⟩
    ·exact .inr ⟨D, by simp, by omega⟩
   ·rcases q4 with ⟨_, q5, _, q6⟩ | ⟨_, q5, _, q6⟩
    ·exact .inl ⟨q5, q6⟩
    ·exact .inr ⟨q5, q6⟩
 ·rintro ⟨o, ac, ad⟩ ⟨G, p, y, e1, e2, e3, e4, e5, e6, e7⟩
  dsimp only at e1 e6 e7
  subst e1; subst e6; subst e7
  exact .pure ⟨G, p, y, rate, rfl, e2, e3, e4, by rw [e5]; exact w, rfl⟩
def Hj (rate : Int) (h : Hop) : Int := if h.Back = true then -rate else rate
def C7 (rate : Int) (k : Nat) : List Hop → Int
 | [] => 0
 | h :: t => (if h.Segment = (k : Int) then Hj rate h else 0) + C7 rate k t
theorem Oz (rate : Int) (k : Nat) : ∀ l m : List Hop, C7 rate k (l ++ m) = C7 rate k l + C7 rate k m
 | [], m => by simp [C7]
 | h :: l, m => by simp only [List.cons_append, C7, Oz rate k l m]; omega
theorem H9 {rate : Int} {k j : Nat} {l : List Hop} {h : Hop} (D : l[j]? = some h) : C7 rate k (l.take (j + 1)) = C7 rate k (l.take j) + if h.Segment = (k : Int) then Hj rate h else 0 := by
 rw [List.take_add_one, D, Oz]; simp [C7]
theorem H8 {rate : Int} {k : Nat} : ∀ {l : List Hop}, (∀ h, h ∈ l → h.Segment ≠ (k : Int)) → C7 rate k l = 0
 | [], _ => rfl
 | h :: l, hh => by
  simp only [C7]
  rw [if_neg (hh h (by simp)), H8 fun x hx => hh x (by simp [hx])]; rfl
theorem Js {rate : Int} {k : Nat} : ∀ {l : List Hop} {i : Nat} {h : Hop}, l[i]? = some h → h.Segment = (k : Int) → (∀ (j : Nat) (x : Hop), j ≠ i → l[j]? = some x → x.Segment ≠ (k : Int)) → C7 rate k l = Hj rate h
 | [], i, h, hi, _, _ => by simp at hi
 | x :: l, 0, h, hi, hk, ho => by
  simp at hi; subst hi
  simp only [C7]
  rw [if_pos hk, H8 fun y hy => ?_]; omega
  obtain ⟨j, D⟩ := List.getElem?_of_mem hy
  exact ho (j + 1) y (by omega) (by simpa using D)
 | x :: l, i + 1, h, hi, hk, ho => by
  simp only [C7]
  rw [if_neg (ho 0 x (by omega) rfl), Js (i := i) (by simpa using hi) hk fun j y D hy => ho (j + 1) y (by omega) (by simpa using hy)]; omega
theorem G9 {rate : Int} (D : 0 ≤ rate ∧ rate ≤ 1000) (k : Nat) : ∀ l : List Hop, -(1000 * (l.length : Int)) ≤ C7 rate k l ∧ C7 rate k l ≤ 1000 * (l.length : Int)
 | [] => by simp [C7]
 | h :: l => by
  have := G9 D k l
  simp only [C7, List.length_cons]
  unfold Hj
  split
  ·split <;> omega
  ·omega
theorem Sb {h : Hop} {r : Int} (D : -1000000 ≤ r ∧ r ≤ 1000000) : Hr h r = Hj r h := by
 unfold Hr Hj
 rw [Bg (by omega), Int.zero_sub]
theorem WayIs.once {n : Network} {up : Bool} {rates ports : List Int} (h : Res n up rates ports) {hops : List Hop} {nd : Nat → Int} (w : WayIs n rates hops nd) {i j : Nat} {x y : Hop} (hx : hops[i]? = some x) (hy : hops[j]? = some y)
  (he : x.Segment = y.Segment) : i = j := by
 have hi := (gs hx).1
 have hj := (gs hy).1
 obtain ⟨k, s, r, e1, W, X, Y⟩ := w.hop i x hx
 obtain ⟨k', s', r', f1, G, M, Z⟩ := w.hop j y hy
 have : k = k' := by omega
 subst this
 rw [W] at G; simp at G; subst G
 rw [X] at M; simp at M; subst M
 have O : nd i = nd j := by
  rcases Y with ⟨_, a, b, _⟩ | ⟨_, a, b, _⟩ <;> rcases Z with ⟨_, c, d, _⟩ | ⟨_, c, d, _⟩ <;> omega
 rcases Nat.lt_trichotomy i j with D | he | D
 ·exact absurd O (w.mono h j i D (by omega)).ne
 ·exact he
 ·exact absurd O.symm (w.mono h i j D (by omega)).ne
structure Follow (n : Network) (up : Bool) (rates ports : List Int) (i0 : Nat) (x : Path) (d : paths_divider) (o : Nat) (p0 po : Port) (x0 y : Int) (nd : Nat → Int) : Prop where
 net : d.n_ = n
 in_ : x.In = (i0 : Int)
 out : x.Out = (o : Int)
 hp0 : n.Ports[i0]? = some p0
 hpo : n.Ports[o]? = some po
 hx0 : ports[i0]? = some x0 ∧ 0 < x0
 hy : ports[o]? = some y ∧ y < 0
 way : WayIs n rates x.Hops nd
 ends : nd 0 = p0.Node ∧ nd x.Hops.length = po.Node
 len : x.Hops.length ≤ 5
 rt : 1 ≤ x.Rate ∧ x.Rate ≤ x0 ∧ x.Rate ≤ -y
 most : ∀ h, h ∈ x.Hops → x.Rate ≤ dJ rates h
 tight : x.Rate = x0 ∨ x.Rate = -y ∨ ∃ h, h ∈ x.Hops ∧ x.Rate = dJ rates h
 hports : d.ports = (ports.set i0 (x0 - x.Rate)).set o (y + x.Rate)
 hrates : d.rates.length = rates.length ∧ ∀ (k : Nat) (r : Int), rates[k]? = some r → d.rates[k]? = some (r - C7 x.Rate k x.Hops)
 less : ∀ (k : Nat) (r : Int), rates[k]? = some r → (0 ≤ r → 0 ≤ r - C7 x.Rate k x.Hops ∧ r - C7 x.Rate k x.Hops ≤ r) ∧ (r ≤ 0 → r ≤ r - C7 x.Rate k x.Hops ∧ r - C7 x.Rate k x.Hops ≤ 0)
 res : Res n up d.rates d.ports
theorem N3 {n : Network} (hn : NetOk n) {up : Bool} {rates ports : List Int} (h : Res n up rates ports) {i0 : Nat} {x0 : Int} (hx0 : ports[i0]? = some x0) (Y : 0 < x0) :
  Ok (Jo ⟨n, rates, ports⟩ (i0 : Int)) fun r => ∃ o p0 po y nd, Follow n up rates ports i0 r.1 r.2 o p0 po x0 y nd := by
 have hil := (gs hx0).1
 have hp0 : n.Ports[i0]? = some (n.Ports[i0]'(by have := h.pl; omega)) := gq _
 generalize n.Ports[i0]'(by have := h.pl; omega) = p0 at hp0
 have hxr := h.prt i0 x0 hx0
 unfold Jo
 refine .bind' (.eq (Bd hx0) (.bind' (.eq (Bd hp0) (.bind (iP hn h hp0 hx0 Y) ?_))))
 rintro ⟨_, hops, rt⟩ ⟨o, po, y, rate, rfl, hpo, hy, hyn, w, e7⟩
 dsimp only at w e7 ⊢
 obtain ⟨nd, w1, w2, w3⟩ := w.way
 have hrate := w.rt
 have hyr := h.prt o y hy
 have ab : 1 ≤ rt ∧ rt ≤ x0 ∧ rt ≤ -y ∧ rt ≤ rate := by omega
 have hne : i0 ≠ o := by rintro rfl; rw [hx0] at hy; simp at hy; omega
 unfold Jo.J1
 dsimp only
 have M : (ports.set i0 (wr (x0 - rt)))[o]? = some y := by rw [List.getElem?_set_ne hne]; exact hy
 refine .bind' (.eq (Bd M) ?_)
 have hlen : hops.length ≤ 5 := by
  have hl := w.len; have := hn.nodes; have hat := w.at_
  unfold We at hl; split at hl <;> omega
 have G : ∀ h, h ∈ hops → rt ≤ dJ rates h := fun x hx => by have := w.most x hx; omega
 have key : ∀ (k : Nat) (r : Int), rates[k]? = some r → C7 rt k hops = 0 ∨ (0 < r ∧ C7 rt k hops = rt ∧ rt ≤ r) ∨ (r < 0 ∧ C7 rt k hops = -rt ∧ rt ≤ -r) := by
  intro k r O
  by_cases hex : ∃ (i : Nat) (x : Hop), hops[i]? = some x ∧ x.Segment = (k : Int)
  ·obtain ⟨i, x, hx, D⟩ := hex
   rw [Js hx D fun j y hj hy he => hj (w1.once h hy hx (he.trans D.symm))]
   have hm := G x (mg hx)
   rw [Mn D O] at hm
   obtain ⟨k', s, r', e1, e2, W, e4⟩ := w1.hop i x hx
   have : k = k' := by omega
   subst this
   rw [O] at W; simp at W; subst W
   unfold Hj
   rcases e4 with ⟨b, q, _, _⟩ | ⟨b, q, _, _⟩
   ·exact .inr (.inl ⟨q, by rw [b]; rfl, by omega⟩)
   ·exact .inr (.inr ⟨q, by rw [b]; rfl, by omega⟩)
  ·exact .inl (H8 fun x hx D => by obtain ⟨i, hi⟩ := List.getElem?_of_mem hx; exact hex ⟨i, x, hi, D⟩)
 refine .bind (Q := fun st => st.length = rates.length ∧ (∀ (k : Nat) (r : Int), rates[k]? = some r → st[k]? = some (r - C7 rt k hops)) ∧ ∀ v, Fl (wt n v) st = Fl (wt n v) rates - (rt * ind (nd hops.length) v - rt * ind (nd 0) v)) ?_ ?_
 ·refine .forJ (fun j st => st.length = rates.length ∧ (∀ (k : Nat) (r : Int), rates[k]? = some r → st[k]? = some (r - C7 rt k (hops.take j))) ∧ ∀ v, Fl (wt n v) st = Fl (wt n v) rates - (rt * ind (nd j) v - rt * ind (nd 0) v)) ⟨rfl, fun k r O => by simp [C7, O], fun v => by omega⟩ ?_ ?_
  ·rintro j st hj ⟨i1, Z, i3⟩
   have hx : hops[j]? = some hops[j] := gq hj
   generalize hops[j] = x at hx
   obtain ⟨k, s, r, e1, e2, W, e4⟩ := w1.hop j x hx
   have ac := Z k r W
   have aa := h.rng k r s W e2
   have hb := G9 (rate := rt) (by omega) k (hops.take j)
   rw [List.length_take] at hb
   unfold Jo.B3
   refine .bind' (.eq (Bd hx) ?_)
   dsimp only
   rw [e1]
   refine .bind' (.eq (Bd ac) (.pure ?_))
   dsimp only
   rw [Sb (by omega)]
   have hsg : -1000 ≤ Hj rt x ∧ Hj rt x ≤ 1000 := by unfold Hj; split <;> omega
   rw [Bg (by omega)]
   refine ⟨by simp [i1], fun k' r' hr' => ?_, fun v => ?_⟩
   ·rw [H9 hx, Ds]
    have hkl := (gs ac).1
    by_cases hkk : k = k'
    ·subst hkk
     rw [hr'] at W; simp at W; subst W
     rw [if_pos ⟨rfl, hkl⟩, if_pos e1]; congr 1; omega
    ·rw [if_neg (fun h => hkk h.1), if_neg (by omega), Z k' r' hr']; simp
   ·rw [Gt (Xr v e2) ac, i3 v]
    have : (ind s.To v - ind s.From v) * (r - C7 rt k (hops.take j) - Hj rt x - (r - C7 rt k (hops.take j))) = -(rt * ind (nd (j + 1)) v - rt * ind (nd j) v) := by
     rw [show r - C7 rt k (hops.take j) - Hj rt x - (r - C7 rt k (hops.take j)) = -Hj rt x by omega]
     unfold Hj
     rcases e4 with ⟨b, _, q1, q2⟩ | ⟨b, _, q1, q2⟩
     ·rw [b, q1, q2, if_neg (by simp), Int.sub_mul, Int.mul_neg, Int.mul_neg, Int.mul_comm, Int.mul_comm (ind (nd j) v)]; omega
     ·rw [b, q1, q2, if_pos rfl, Int.neg_neg, Int.sub_mul, Int.mul_comm, Int.mul_comm (ind (nd (j + 1)) v)]; omega
    rw [this]; omega
  ·rintro st ⟨i1, Z, i3⟩
   rw [List.take_length] at Z
   exact ⟨i1, Z, i3⟩
 rintro st ⟨i1, Z, i3⟩
 unfold Jo.J2
 dsimp only
 have e1 : wr (x0 - rt) = x0 - rt := Bg (by omega)
 have e2 : wr (y + rt) = y + rt := Bg (by omega)
 rw [e1] at M
 rw [e1, e2]
 have less : ∀ (k : Nat) (r : Int), rates[k]? = some r → (0 ≤ r → 0 ≤ r - C7 rt k hops ∧ r - C7 rt k hops ≤ r) ∧ (r ≤ 0 → r ≤ r - C7 rt k hops ∧ r - C7 rt k hops ≤ 0) := fun k r O => by
  have := key k r O; omega
 refine .pure ⟨o, p0, po, y, nd, rfl, rfl, rfl, hp0, hpo, ⟨hx0, Y⟩, ⟨hy, hyn⟩, w1, ⟨w2, w3⟩, hlen, ⟨ab.1, ab.2.1, ab.2.2.1⟩, G, ?_, rfl, ⟨i1, Z⟩, less, ⟨by dsimp only; rw [i1]; exact h.rl, by simp [h.pl], fun k r s O hs => ?_, fun k x D => ?_, fun v => ?_⟩⟩
 ·dsimp only
  by_cases hc : rate ≤ -y
  ·have : rt = rate := by omega
   rcases w.tight with ht | ⟨x, hx, ht⟩
   ·exact .inl (by omega)
   ·exact .inr (.inr ⟨x, hx, by omega⟩)
  ·exact .inr (.inl (by omega))
 ·dsimp only at O
  have hkl := (gs O).1
  have X : rates[k]? = some (rates[k]'(by omega)) := gq _
  generalize rates[k]'(by omega) = r0 at X
  have := Z k r0 X
  rw [O] at this; simp at this
  have hl := less k r0 X
  have aa := h.rng k r0 s X hs
  refine ⟨by omega, by omega, fun hp => aa.2.2.1 (by omega), fun hp => aa.2.2.2 (by omega)⟩
 ·dsimp only at D
  rw [Ds] at D
  split at D
  ·simp at D; omega
  ·rw [Ds] at D
   split at D
   ·simp at D; omega
   ·exact h.prt k x D
 ·dsimp only
  rw [i3 v, Gt (R2 v hpo) M, Gt (R2 v hp0) hx0, w2, w3]
  have := h.bal v
  have a1 : ind p0.Node v * (x0 - rt - x0) = -(rt * ind p0.Node v) := by rw [show x0 - rt - x0 = -rt by omega, Int.mul_neg, Int.mul_comm]
  have a2 : ind po.Node v * (y + rt - y) = rt * ind po.Node v := by rw [show y + rt - y = rt by omega, Int.mul_comm]
  rw [a1, a2]; omega
def nz : List Int → Nat
 | [] => 0
 | x :: l => (if x = 0 then 0 else 1) + nz l
theorem Kw : ∀ l : List Int, nz l ≤ l.length
 | [] => Nat.le_refl _
 | x :: l => by have := Kw l; simp only [nz, List.length_cons]; split <;> omega
theorem Xw : ∀ {l m : List Int}, l.length = m.length → (∀ k : Nat, l[k]? = some 0 → m[k]? = some 0) → nz m ≤ nz l
 | [], [], _, _ => Nat.le_refl _
 | [], _ :: _, h, _ => by simp at h
 | _ :: _, [], h, _ => by simp at h
 | x :: l, y :: m, hl, h => by
  have D := h 0
  have := Xw (l := l) (m := m) (by simpa using hl) fun k G => by have := h (k + 1) (by simpa using G); simpa using this
  simp at D
  simp only [nz]
  by_cases hx : x = 0
  ·rw [if_pos hx, if_pos (D hx)]; omega
  ·rw [if_neg hx]; split <;> omega
theorem Xv : ∀ {l m : List Int} {i : Nat} {x : Int}, l.length = m.length → (∀ k : Nat, l[k]? = some 0 → m[k]? = some 0) → l[i]? = some x → x ≠ 0 → m[i]? = some 0 → nz m < nz l
 | [], _, i, _, _, _, h, _, _ => by simp at h
 | _ :: _, [], _, _, h, _, _, _, _ => by simp at h
 | a :: l, b :: m, 0, x, hl, h, hx, hn, hy => by
  have := Xw (l := l) (m := m) (by simpa using hl) fun k G => by have := h (k + 1) (by simpa using G); simpa using this
  simp at hx hy
  simp only [nz]
  rw [if_pos hy, if_neg (show ¬ a = 0 by omega)]; omega
 | a :: l, b :: m, i + 1, x, hl, h, hx, hn, hy => by
  have M := h 0
  have := Xv (l := l) (m := m) (i := i) (by simpa using hl) (fun k G => by have := h (k + 1) (by simpa using G); simpa using this) (by simpa using hx) hn (by simpa using hy)
  simp at M
  simp only [nz]
  by_cases D : a = 0
  ·rw [if_pos D, if_pos (M D)]; omega
  ·rw [if_neg D]; split <;> omega
def Cw (k : Nat) : List Path → Int
 | [] => 0
 | x :: l => C7 x.Rate k x.Hops + Cw k l
def D9 (i : Nat) (x : Path) : Int := (if x.In = (i : Int) then x.Rate else 0) - (if x.Out = (i : Int) then x.Rate else 0)
def Cv (i : Nat) : List Path → Int
 | [] => 0
 | x :: l => D9 i x + Cv i l
theorem F4 (k : Nat) : ∀ l m : List Path, Cw k (l ++ m) = Cw k l + Cw k m
 | [], m => by simp [Cw]
 | x :: l, m => by simp only [List.cons_append, Cw, F4 k l m]; omega
theorem Fk (i : Nat) : ∀ l m : List Path, Cv i (l ++ m) = Cv i l + Cv i m
 | [], m => by simp [Cv]
 | x :: l, m => by simp only [List.cons_append, Cv, Fk i l m]; omega
def PathOk (n : Network) (p : Plan) (x : Path) : Prop := ∃ (i o : Nat) (p0 po : Port) (D G : Int) (nd : Nat → Int), x.In = (i : Int) ∧ x.Out = (o : Int) ∧ n.Ports[i]? = some p0 ∧ n.Ports[o]? = some po ∧ p.Ports[i]? = some D ∧ 0 < D ∧ p.Ports[o]? = some G ∧ G < 0 ∧
 WayIs n p.Rates x.Hops nd ∧ nd 0 = p0.Node ∧ nd x.Hops.length = po.Node ∧ x.Hops.length ≤ 5 ∧ 1 ≤ x.Rate ∧ x.Rate ≤ 1000
def dM (rates ports : List Int) (x : Path) : Prop := (∃ i : Nat, x.In = (i : Int) ∧ ports[i]? = some 0) ∨ (∃ o : Nat, x.Out = (o : Int) ∧ ports[o]? = some 0) ∨ ∃ (h : Hop) (k : Nat), h ∈ x.Hops ∧ h.Segment = (k : Int) ∧ rates[k]? = some 0
structure DInv (n : Network) (up : Bool) (p : Plan) (rates ports : List Int) (out : List Path) : Prop where
 res : Res n up rates ports
 shape : ∀ (k : Nat) (r r0 : Int), rates[k]? = some r → p.Rates[k]? = some r0 → (0 ≤ r0 → 0 ≤ r ∧ r ≤ r0) ∧ (r0 ≤ 0 → r0 ≤ r ∧ r ≤ 0)
 pshape : ∀ (k : Nat) (r r0 : Int), ports[k]? = some r → p.Ports[k]? = some r0 → (0 ≤ r0 → 0 ≤ r ∧ r ≤ r0) ∧ (r0 ≤ 0 → r0 ≤ r ∧ r ≤ 0)
 sumR : ∀ (k : Nat) (r r0 : Int), rates[k]? = some r → p.Rates[k]? = some r0 → r = r0 - Cw k out
 sumP : ∀ (k : Nat) (r r0 : Int), ports[k]? = some r → p.Ports[k]? = some r0 → r = r0 - Cv k out
 paths : ∀ x, x ∈ out → PathOk n p x
 dead : ∀ x, x ∈ out → dM rates ports x
 apart : ∀ (i j : Nat) (x y : Path), i < j → out[i]? = some x → out[j]? = some y → ¬ (x.In = y.In ∧ x.Out = y.Out ∧ x.Hops = y.Hops)
 count : out.length + nz rates + nz ports ≤ nz p.Rates + nz p.Ports
theorem DInv.start {n : Network} {up : Bool} {p : Plan} (h : Res n up p.Rates p.Ports) : DInv n up p p.Rates p.Ports [] :=
 ⟨h, fun k r r0 h1 h2 => by rw [h1] at h2; simp at h2; omega, fun k r r0 h1 h2 => by rw [h1] at h2; simp at h2; omega, fun k r r0 h1 h2 => by rw [h1] at h2; simp at h2; simp [Cw]; omega, fun k r r0 h1 h2 => by rw [h1] at h2; simp at h2; simp [Cv]; omega,
  by simp, by simp, by simp, by simp⟩
theorem DInv.follow {n : Network} {up : Bool} {p : Plan} (M : Res n up p.Rates p.Ports) {rates ports : List Int} {out : List Path} (h : DInv n up p rates ports out) {i0 o : Nat} {x : Path} {d : paths_divider} {p0 po : Port} {x0 y : Int} {nd : Nat → Int}
  (f : Follow n up rates ports i0 x d o p0 po x0 y nd) : DInv n up p d.rates d.ports (out ++ [x]) ∧ nz d.rates + nz d.ports < nz rates + nz ports ∧ ∀ (j : Nat) (z : Int), d.ports[j]? = some z → ports[j]? = some z ∨ z ≤ 0 ∨ j = i0 := by
 obtain ⟨hx0, hx0p⟩ := f.hx0
 obtain ⟨hy, hyn⟩ := f.hy
 have hrt := f.rt
 have hne : i0 ≠ o := by rintro rfl; rw [hx0] at hy; simp at hy; omega
 have hil := (gs hx0).1
 have hol := (gs hy).1
 obtain ⟨rl, rr⟩ := f.hrates
 have hpl : d.ports.length = ports.length := by rw [f.hports]; simp
 have O : ∀ (j : Nat) (z : Int), d.ports[j]? = some z → (j = i0 ∧ z = x0 - x.Rate) ∨ (j = o ∧ z = y + x.Rate) ∨ (j ≠ i0 ∧ j ≠ o ∧ ports[j]? = some z) := by
  intro j z D
  rw [f.hports, Ds] at D
  split at D
  ·rename_i hh; simp at D; exact .inr (.inl ⟨hh.1.symm, D.symm⟩)
  ·rename_i hh
   rw [Ds] at D
   have hjo : j ≠ o := fun he => hh ⟨he.symm, by simp; omega⟩
   split at D
   ·rename_i hg; simp at D; exact .inl ⟨hg.1.symm, D.symm⟩
   ·rename_i hg
    have hji : j ≠ i0 := fun he => hg ⟨he.symm, by omega⟩
    exact .inr (.inr ⟨hji, hjo, D⟩)
 have hin : d.ports[i0]? = some (x0 - x.Rate) := by rw [f.hports, Ds, if_neg (fun h => hne h.1.symm), Ds, if_pos ⟨rfl, hil⟩]
 have hou : d.ports[o]? = some (y + x.Rate) := by rw [f.hports, Ds, if_pos ⟨rfl, by simpa using hol⟩]
 have back : ∀ (k : Nat) (r' : Int), d.rates[k]? = some r' → ∃ r, rates[k]? = some r ∧ r' = r - C7 x.Rate k x.Hops := by
  intro k r' X
  have hkl := (gs X).1
  have hr : rates[k]? = some (rates[k]'(by omega)) := gq _
  have := rr k _ hr
  rw [X] at this; simp at this
  exact ⟨_, hr, this⟩
 have zr : ∀ k : Nat, rates[k]? = some 0 → d.rates[k]? = some 0 := by
  intro k hk
  have h1 := rr k 0 hk
  have h2 := f.less k 0 hk
  rw [h1]; congr 1; omega
 have zp : ∀ k : Nat, ports[k]? = some 0 → d.ports[k]? = some 0 := by
  intro k hk
  have hki : k ≠ i0 := by rintro rfl; rw [hx0] at hk; simp at hk; omega
  have hko : k ≠ o := by rintro rfl; rw [hy] at hk; simp at hk; omega
  rw [f.hports, List.getElem?_set_ne (Ne.symm hko), List.getElem?_set_ne (Ne.symm hki)]; exact hk
 have Y : dM d.rates d.ports x := by
  rcases f.tight with ht | ht | ⟨M, hm, ht⟩
  ·exact .inl ⟨i0, f.in_, by rw [hin]; congr 1; omega⟩
  ·exact .inr (.inl ⟨o, f.out, by rw [hou]; congr 1; omega⟩)
  ·obtain ⟨j, hj⟩ := List.getElem?_of_mem hm
   obtain ⟨k, s, r, e1, e2, e3, e4⟩ := f.way.hop j M hj
   refine .inr (.inr ⟨M, k, hm, e1, ?_⟩)
   have h1 := rr k r e3
   rw [h1]
   have hs := Js (rate := x.Rate) hj e1 fun j' y' hj' hy' he => hj' (f.way.once h.res hy' hj (he.trans e1.symm))
   rw [hs]
   rw [Mn e1 e3] at ht
   unfold Hj
   congr 1
   rcases e4 with ⟨b, q, _, _⟩ | ⟨b, q, _, _⟩
   ·rw [b, if_neg (by simp)]; omega
   ·rw [b, if_pos rfl]; omega
 have keep : ∀ z, dM rates ports z → dM d.rates d.ports z := by
  rintro z (⟨i, h1, h2⟩ | ⟨i, h1, h2⟩ | ⟨M, k, h1, h2, h3⟩)
  ·exact .inl ⟨i, h1, zp i h2⟩
  ·exact .inr (.inl ⟨i, h1, zp i h2⟩)
  ·exact .inr (.inr ⟨M, k, h1, h2, zr k h3⟩)
 have fresh : ∀ z : Path, z.In = x.In → z.Out = x.Out → z.Hops = x.Hops → ¬ dM rates ports z := by
  rintro z z1 z2 z3 (⟨i, h1, h2⟩ | ⟨i, h1, h2⟩ | ⟨M, k, h1, h2, h3⟩)
  ·have : i = i0 := by have := f.in_; omega
   subst this; rw [hx0] at h2; simp at h2; omega
  ·have : i = o := by have := f.out; omega
   subst this; rw [hy] at h2; simp at h2; omega
  ·rw [z3] at h1
   obtain ⟨j, hj⟩ := List.getElem?_of_mem h1
   obtain ⟨k', s, r, e1, e2, e3, e4⟩ := f.way.hop j M hj
   have : k = k' := by omega
   subst this
   rw [h3] at e3; simp at e3
   rcases e4 with ⟨_, q, _⟩ | ⟨_, q, _⟩ <;> omega
 have hlt : nz d.rates + nz d.ports < nz rates + nz ports := by
  have l1 := Xw (l := rates) (m := d.rates) rl.symm zr
  have l2 := Xw (l := ports) (m := d.ports) hpl.symm zp
  rcases Y with ⟨i, h1, h2⟩ | ⟨i, h1, h2⟩ | ⟨M, k, h1, h2, h3⟩
  ·have : i = i0 := by have := f.in_; omega
   subst this
   have := Xv (l := ports) (m := d.ports) hpl.symm zp hx0 (by omega) h2
   omega
  ·have : i = o := by have := f.out; omega
   subst this
   have := Xv (l := ports) (m := d.ports) hpl.symm zp hy (by omega) h2
   omega
  ·obtain ⟨j, hj⟩ := List.getElem?_of_mem h1
   obtain ⟨k', s, r, e1, e2, e3, e4⟩ := f.way.hop j M hj
   have : k = k' := by omega
   subst this
   have := Xv (l := rates) (m := d.rates) rl.symm zr e3 (by rcases e4 with ⟨_, q, _⟩ | ⟨_, q, _⟩ <;> omega) h3
   omega
 have hpi : p.Ports[i0]? = some (p.Ports[i0]'(by have := M.pl; have := h.res.pl; omega)) := gq _
 have hpo : p.Ports[o]? = some (p.Ports[o]'(by have := M.pl; have := h.res.pl; omega)) := gq _
 generalize p.Ports[i0]'(by have := M.pl; have := h.res.pl; omega) = yi at hpi
 generalize p.Ports[o]'(by have := M.pl; have := h.res.pl; omega) = yo at hpo
 have si := h.pshape i0 x0 yi hx0 hpi
 have so := h.pshape o y yo hy hpo
 have hxr := h.res.prt i0 x0 hx0
 refine ⟨⟨f.res, fun k r' r0 X W => ?_, fun k z z0 D G => ?_, fun k r' r0 X W => ?_, fun k z z0 D G => ?_, fun z D => ?_, fun z D => ?_, fun i j a b hij ha hb => ?_, ?_⟩, hlt, fun j z D => ?_⟩
 ·obtain ⟨r, hr, rfl⟩ := back k r' X
  have := h.shape k r r0 hr W
  have := f.less k r hr
  omega
 ·rcases O k z D with ⟨rfl, rfl⟩ | ⟨rfl, rfl⟩ | ⟨_, _, Z⟩
  ·rw [hpi] at G; simp at G; omega
  ·rw [hpo] at G; simp at G; omega
  ·exact h.pshape k z z0 Z G
 ·obtain ⟨r, hr, rfl⟩ := back k r' X
  have := h.sumR k r r0 hr W
  rw [F4]; simp only [Cw]; omega
 ·rw [Fk]; simp only [Cv, D9]
  rw [f.in_, f.out]
  rcases O k z D with ⟨rfl, rfl⟩ | ⟨rfl, rfl⟩ | ⟨n1, n2, Z⟩
  ·have := h.sumP k x0 z0 hx0 G
   rw [if_pos rfl, if_neg (by omega)]; omega
  ·have := h.sumP k y z0 hy G
   rw [if_neg (by omega), if_pos rfl]; omega
  ·have := h.sumP k z z0 Z G
   rw [if_neg (by omega), if_neg (by omega)]; omega
 ·rcases List.mem_append.1 D with D | D
  ·exact h.paths z D
  ·simp at D; subst D
   refine ⟨i0, o, p0, po, yi, yo, nd, f.in_, f.out, f.hp0, f.hpo, hpi, by omega, hpo, by omega, ⟨fun j hh hj => ?_⟩, f.ends.1, f.ends.2, f.len, by omega, by omega⟩
   obtain ⟨k, s, r, e1, e2, e3, e4⟩ := f.way.hop j hh hj
   have hkl := (gs e3).1
   have W : p.Rates[k]? = some (p.Rates[k]'(by have := M.rl; have := h.res.rl; omega)) := gq _
   generalize p.Rates[k]'(by have := M.rl; have := h.res.rl; omega) = r0 at W
   have hsh := h.shape k r r0 e3 W
   refine ⟨k, s, r0, e1, e2, W, ?_⟩
   rcases e4 with ⟨b, q, q1, q2⟩ | ⟨b, q, q1, q2⟩
   ·exact .inl ⟨b, by omega, q1, q2⟩
   ·exact .inr ⟨b, by omega, q1, q2⟩
 ·rcases List.mem_append.1 D with D | D
  ·exact keep z (h.dead z D)
  ·simp at D; subst D; exact Y
 ·have hbl := (gs hb).1
  simp at hbl
  rw [List.getElem?_append_left (by omega)] at ha
  rw [List.getElem?_append] at hb
  split at hb
  ·exact h.apart i j a b hij ha hb
  ·have : j = out.length := by omega
   subst this
   simp at hb; subst hb
   rintro ⟨a1, a2, a3⟩
   exact fresh a a1 a2 a3 (h.dead a (mg ha))
 ·have := h.count
  simp; omega
 ·rcases O j z D with ⟨rfl, rfl⟩ | ⟨rfl, rfl⟩ | ⟨_, _, Z⟩
  ·exact .inr (.inr rfl)
  ·exact .inr (.inl (by omega))
  ·exact .inl Z
theorem Lt.flip {up : Bool} {a b : Int} (h : Lt up a b) : Lt (!up) b a := by
 cases up <;> simpa [Lt] using h
theorem Res.neg {n : Network} {up : Bool} {rates ports : List Int} (h : Res n up rates ports) : Res n (!up) (rates.map fun x => -x) (ports.map fun x => -x) := by
 refine ⟨by simp [h.rl], by simp [h.pl], fun k r s M O => ?_, fun k x hx => ?_, fun v => ?_⟩
 ·rw [List.getElem?_map] at M
  obtain ⟨G, D, rfl⟩ := Option.map_eq_some_iff.1 M
  have := h.rng k G s D O
  exact ⟨by omega, by omega, fun h => (this.2.2.2 (by omega)).flip, fun h => (this.2.2.1 (by omega)).flip⟩
 ·rw [List.getElem?_map] at hx
  obtain ⟨G, D, rfl⟩ := Option.map_eq_some_iff.1 hx
  have := h.prt k G D
  omega
 ·have := h.bal v
  rw [O9, O9]; omega
theorem still {n : Network} (Z : NetOk n) {up : Bool} {rates ports : List Int} (h : Res n up rates ports) (hp : ∀ (k : Nat) (x : Int), ports[k]? = some x → x ≤ 0) :
  (∀ (k : Nat) (r : Int), rates[k]? = some r → r = 0) ∧ ∀ (k : Nat) (x : Int), ports[k]? = some x → x = 0 := by
 have M := h.neg
 have none : ∀ (m : Nat) (v : Int), We n (!up) v = m → 0 ≤ v ∧ v < (n.Nodes.length : Int) → ¬ E4 n (rates.map fun x => -x) (ports.map fun x => -x) v := by
  intro m
  induction m using Nat.strongRecOn with
  | ind m ih =>
   intro v hm hv hc
   refine Wj M hc (fun i p x _ _ hx => ?_) fun k s r D W => ?_
   ·rw [List.getElem?_map] at hx
    obtain ⟨r', G, rfl⟩ := Option.map_eq_some_iff.1 hx
    have := hp i r' G
    omega
   ·have X := M.rng k r s W D
    have he := (Z.segs k s D).ends
    refine ⟨fun ⟨h1, h2⟩ => ?_, fun ⟨h1, h2⟩ => ?_⟩
    ·have hl := X.2.2.1 h1
     rw [h2] at hl
     exact ih (We n (!up) s.To) (by have := T1 hv (by omega) hl; omega) s.To rfl (by omega) (.inr ⟨k, s, r, D, W, by omega, .inl ⟨h1, rfl⟩⟩)
    ·have hl := X.2.2.2 h1
     rw [h2] at hl
     exact ih (We n (!up) s.From) (by have := T1 hv (by omega) hl; omega) s.From rfl (by omega) (.inr ⟨k, s, r, D, W, by omega, .inr ⟨h1, rfl⟩⟩)
 constructor
 ·intro k r W
  have Y := (gs W).1
  have D : n.Segments[k]? = some (n.Segments[k]'(by have := h.rl; omega)) := gq _
  generalize n.Segments[k]'(by have := h.rl; omega) = s at D
  have he := (Z.segs k s D).ends
  have G : (rates.map fun x => -x)[k]? = some (-r) := by rw [List.getElem?_map, W]; rfl
  rcases Int.lt_trichotomy r 0 with O | O | O
  ·exact (none _ s.To rfl (by omega) (.inr ⟨k, s, -r, D, G, by omega, .inl ⟨by omega, rfl⟩⟩)).elim
  ·exact O
  ·exact (none _ s.From rfl (by omega) (.inr ⟨k, s, -r, D, G, by omega, .inr ⟨by omega, rfl⟩⟩)).elim
 ·intro k x hx
  have Y := (gs hx).1
  have D : n.Ports[k]? = some (n.Ports[k]'(by have := h.pl; omega)) := gq _
  generalize n.Ports[k]'(by have := h.pl; omega) = q at D
  have he := (Z.ports k q D).node
  have aa : (ports.map fun x => -x)[k]? = some (-x) := by rw [List.getElem?_map, hx]; rfl
  have := hp k x hx
  by_cases hx0 : x = 0
  ·exact hx0
  ·exact (none _ q.Node rfl he (.inl ⟨k, q, -x, D, rfl, aa, by omega⟩)).elim
structure Divided (n : Network) (up : Bool) (p : Plan) (out : List Path) : Prop where
 res : Res n up p.Rates p.Ports
 sumR : ∀ (k : Nat) (r : Int), p.Rates[k]? = some r → r = Cw k out
 sumP : ∀ (k : Nat) (r : Int), p.Ports[k]? = some r → r = Cv k out
 paths : ∀ x, x ∈ out → PathOk n p x
 apart : ∀ (i j : Nat) (x y : Path), i < j → out[i]? = some x → out[j]? = some y → ¬ (x.In = y.In ∧ x.Out = y.Out ∧ x.Hops = y.Hops)
 count : out.length ≤ 14
theorem L5 {l : List Int} (h : l.length ≤ 1000) : Mt l = some l := by
 unfold Mt
 rw [Ex (by simp; omega)]; rfl
theorem Kj {n : Network} (W : NetOk n) {p : Plan} (hp : PlanOk n p) : Ok (G3 n p) fun r => r.2 = 0 ∧ ∃ up, Divided n up p r.1 := by
 obtain ⟨up, G⟩ := hp.res
 have h1 := W.segs1; have h2 := W.ports1; have h3 := hp.rl; have h4 := hp.pl
 have Ru : nz p.Rates + nz p.Ports ≤ 14 := by have := Kw p.Rates; have := Kw p.Ports; omega
 unfold G3
 rw [Jr W, Si W hp]
 refine .bind' (.pure (Cj (fun h => absurd rfl h) fun _ => .bind' (.pure (Cj (fun h => absurd rfl h) fun _ => ?_))))
 rw [L5 (by omega), L5 (by omega)]
 refine .bind' (.pure (.bind' (.pure ?_)))
 refine .bind' (.forI (S := List ByteArray × List Segment × List Port × List Station × Int × Int × List Int × List Int × List Path) (fun k st => ∃ rates ports out, st = (n.Nodes, n.Segments, n.Ports, n.Stations, n.Vapour, n.Settle, rates, ports, out) ∧ DInv n up p rates ports out ∧ ∀ (j : Nat) (z : Int), j < k → ports[j]? = some z → z ≤ 0)
  (fun _ => False) ⟨_, _, _, rfl, .start G, fun j z h => absurd h (Nat.not_lt_zero _)⟩ ?_ ?_ fun _ h => h.elim)
 ·rintro k _ hk ⟨rates, ports, out, rfl, hi, O⟩
  unfold G3.B2
  dsimp only
  refine .bind (Q := fun d : ((List Path) × Int) ⊕ (List ByteArray × List Segment × List Port × List Station × Int × Int × List Int × List Int × List Path) => ∃ rates ports out, d = .inr (n.Nodes, n.Segments, n.Ports, n.Stations, n.Vapour, n.Settle, rates, ports, out) ∧ DInv n up p rates ports out ∧ ∀ (j : Nat) (z : Int), j < k + 1 → ports[j]? = some z → z ≤ 0) ?_ ?_
  ·refine .loop (S := List ByteArray × List Segment × List Port × List Station × Int × Int × List Int × List Int × List Path) (fun st => ∃ rates ports out, st = (n.Nodes, n.Segments, n.Ports, n.Stations, n.Vapour, n.Settle, rates, ports, out) ∧ DInv n up p rates ports out ∧ ∀ (j : Nat) (z : Int), j < k → ports[j]? = some z → z ≤ 0)
    (fun st => nz st.2.2.2.2.2.2.1 + nz st.2.2.2.2.2.2.2.1) ⟨rates, ports, out, rfl, hi, O⟩ (by have := hi.count; dsimp only; omega) ?_
   rintro _ ⟨rates, ports, out, rfl, hi, O⟩
   have hpl := hi.res.pl
   have hx : ports[k]? = some (ports[k]'(by omega)) := gq _
   generalize ports[k]'(by omega) = x at hx
   unfold G3.B4
   refine .bind' (.eq (Bd hx) (Bb (fun M => ?_) fun X => .pure ⟨rates, ports, out, rfl, hi, fun j z hj D => ?_⟩))
   ·dsimp only at M ⊢
    refine .bind (N3 W hi.res hx M) ?_
    rintro ⟨y, d⟩ ⟨o, p0, po, y1, nd, f⟩
    dsimp only at f
    obtain ⟨g1, g2, g3⟩ := hi.follow G f
    have hc := hi.count
    have hf := f.len
    refine A9 (fun hb => ?_) fun _ => .bind' (.app (by simp; omega) (.pure ⟨⟨d.rates, d.ports, out ++ [y], ?_, g1, fun j z hj D => ?_⟩, g2⟩))
    ·simp at hb; omega
    ·rw [f.net]
    ·rcases g3 j z D with h | h | h
     ·exact O j z hj h
     ·exact h
     ·omega
   ·dsimp only at X
    by_cases hjk : j = k
    ·subst hjk; rw [hx] at D; simp at D; omega
    ·exact O j z (by omega) D
  ·rintro _ ⟨rates, ports, out, rfl, hi, O⟩
   simp only [Sum.elim_inr]
   unfold G3.J3
   exact .pure ⟨rates, ports, out, rfl, hi, O⟩
 ·rintro _ ⟨rates, ports, out, rfl, hi, O⟩
  simp only [Sum.elim_inl]
  unfold G3.J1
  have hpl := hi.res.pl; have hrl := hi.res.rl
  obtain ⟨s1, s2⟩ := still W hi.res fun k x hx => O k x (by have := (gs hx).1; omega) hx
  refine .pure ⟨rfl, up, G, fun k r Z => ?_, fun k r Z => ?_, hi.paths, hi.apart, by have := hi.count; dsimp only; omega⟩
  ·have hkl := (gs Z).1
   have Y : rates[k]? = some (rates[k]'(by omega)) := gq _
   have := hi.sumR k _ r Y Z
   have := s1 k _ Y
   dsimp only; omega
  ·have hkl := (gs Z).1
   have Y : ports[k]? = some (ports[k]'(by omega)) := gq _
   have := hi.sumP k _ r Y Z
   have := s2 k _ Y
   dsimp only; omega
theorem Rw {n : Network} (h1 : n.Segments.length ≤ 1000) (h2 : n.Ports.length ≤ 1000) (D : n.Stations.length ≤ 1000) :
  Ok (P9 n) fun r => r.l = [n.Nodes, n.Segments.map (·.Name), n.Ports.map (·.Name), n.Stations.map (·.Name)] := by
 unfold P9
 refine .bind (Kb (g := (·.Name)) (fun _ _ _ => rfl) h1) ?_
 rintro _ rfl
 unfold P9.J1
 refine .bind (Kb (g := (·.Name)) (fun _ _ _ => rfl) h2) ?_
 rintro _ rfl
 unfold P9.J2
 refine .bind (Kb (g := (·.Name)) (fun _ _ _ => rfl) D) ?_
 rintro _ rfl
 unfold P9.J3
 exact .pure rfl
theorem Ok.ixs {s : ByteArray} {i : Int} {P : Nat × Int → Prop} (D : 0 ≤ i) (h1 : i < (s.size : Int)) (h : ∀ (k : Nat) (x : Int), i = (k : Int) → 0 ≤ x ∧ x ≤ 255 → P (k, x)) : Ok (ixs s i) P := by
 unfold Aw.ixs
 refine ⟨_, if_pos ⟨D, h1⟩, h _ _ (by omega) ?_⟩
 have := (s.data.getD i.toNat 0).toNat_lt
 omega
theorem kI {x : Int} (h : -1000000 ≤ x ∧ x ≤ 1000000) : Jh x = max x (-x) := by
 unfold Jh
 rw [Bg (by omega), Int.zero_sub]
theorem L3 {s : Segment} {r : Int} : Iv s r = Ef s r := rfl
structure Sum16 (b : Int) (st : Int × Int) (d : Int) : Prop where
 come : 0 ≤ st.1 ∧ st.1 ≤ b
 leave : 0 ≤ st.2 ∧ st.2 ≤ b
 diff : st.1 - st.2 = d
theorem Yv {n : Network} (hn : NetG n) {p : Plan} (h4 : p.Rates.length = n.Segments.length) (h5 : p.Ports.length = n.Ports.length) (hr : ∀ (k : Nat) (r : Int), p.Rates[k]? = some r → -1000 ≤ r ∧ r ≤ 1000)
  (hp : ∀ (k : Nat) (x : Int), p.Ports[k]? = some x → -1000 ≤ x ∧ x ≤ 1000) (v : Nat) : Ok (Jm n p (v : Int)) fun r => r.1 - r.2 = Fl (wt n v) p.Rates + Fl (wp n v) p.Ports := by
 have h2 := hn.segs1; have h3 := hn.ports1
 unfold Jm
 refine .bind (.forS (fun k (st : Int × Int) => Sum16 (1000 * k) st (Fl (wt n v) (p.Rates.take k))) ⟨by simp, by simp, by simp [Kc]⟩ ?_ fun st h => h) ?_
 ·rintro k s ⟨a, b⟩ O ⟨i1, i2, i3⟩
  dsimp only at i1 i2 i3
  have Z := (gs O).1
  have D : p.Rates[k]? = some p.Rates[k] := gq (by omega)
  have M := hr k _ D
  have he := (hn.segs k s O).ends
  have G := F6 (w := wt n v) (a := ind s.To v - ind s.From v) (by unfold wt; rw [List.getElem?_map, O]; rfl) D
  generalize p.Rates[k] = r at D M G
  unfold Jm.B5
  refine .bind' (.eq (Bd D) (Cc (fun X => ?_) fun X => ?_))
  ·dsimp only at X
   subst X
   unfold Jm.J6
   rw [G]
   exact .pure ⟨by dsimp only; omega, by dsimp only; omega, by simp; omega⟩
  dsimp only at X ⊢
  have ha := kI (x := r) (by omega)
  rw [ha]
  have j7 : ∀ (j : Int), 0 ≤ j ∧ j ≤ 1000 * k + 1000 → ∀ l : Int, l = ind (Ef s r).1 v → j = b + max r (-r) * l → Ok (Jm.J7 (v : Int) s (a, b) (k, r) j) fun st => Sum16 (1000 * ((k + 1 : Nat) : Int)) st (Fl (wt n v) (p.Rates.take (k + 1))) := by
   intro j hj l hl Y
   unfold Jm.J7 Jm.J6
   dsimp only
   rw [ha, L3]
   have W : ∀ c : Int, c = ind (Ef s r).2 v → a + max r (-r) * c - j = Fl (wt n v) (p.Rates.take (k + 1)) := by
    intro c hc
    subst hc; subst hl; subst Y
    rw [G]
    rcases T2 (s := s) X with ⟨e, hr0⟩ | ⟨e, hr0⟩
    ·rw [e]
     dsimp only
     rw [show max r (-r) = -r by omega, Int.neg_mul, Int.neg_mul, Int.sub_mul, Int.mul_comm r, Int.mul_comm r]; omega
    ·rw [e]
     dsimp only
     rw [show max r (-r) = r by omega, Int.sub_mul, Int.mul_comm r, Int.mul_comm r]; omega
   refine Cc (fun hv => .pure ?_) fun hv => .pure ?_
   ·rw [Bg (by omega)]
    have := W 1 (by rw [hv, Fg])
    exact ⟨by dsimp only; omega, by dsimp only; omega, by dsimp only; omega⟩
   ·have := W 0 (by rw [Gh hv])
    exact ⟨by dsimp only; omega, by dsimp only; omega, by dsimp only; omega⟩
  rw [L3]
  refine Cc (fun hv => j7 _ ?_ 1 (by rw [hv, Fg]) ?_) fun hv => j7 _ ?_ 0 (by rw [Gh hv]) ?_
  ·rw [Bg (by omega)]; omega
  ·rw [Bg (by omega)]; omega
  ·omega
  ·omega
 ·rintro ⟨a, b⟩ hi
  rw [List.take_of_length_le (by omega)] at hi
  unfold Jm.J1
  refine .bind (.forS (fun k (st : Int × Int) => Sum16 (8000 + 1000 * k) st (Fl (wt n v) p.Rates + Fl (wp n v) (p.Ports.take k))) ⟨by have := hi.come; dsimp only at this ⊢; omega, by have := hi.leave; dsimp only at this ⊢; omega, by have := hi.diff; dsimp only at this ⊢; simp [Kc]; omega⟩ ?_ fun st h => h) ?_
  ·rintro k s ⟨a, b⟩ O ⟨i1, i2, i3⟩
   dsimp only at i1 i2 i3
   have Z := (gs O).1
   have D : p.Ports[k]? = some p.Ports[k] := gq (by omega)
   have M := hp k _ D
   have G := F6 (w := wp n v) (a := ind s.Node v) (by unfold wp; rw [List.getElem?_map, O]; rfl) D
   generalize p.Ports[k] = r at D M G
   unfold Jm.B3 Jm.J4
   refine Cc (fun hv => .bind' (.eq (Bd D) (.pure ?_))) fun hv => .pure ?_
   ·rw [hv, Fg] at G
    dsimp only
    rw [Bg (x := 0 - r) (by omega), Bg (by omega), Bg (by omega), G]
    exact ⟨by dsimp only; omega, by dsimp only; omega, by dsimp only; omega⟩
   ·rw [Gh hv] at G
    rw [G]
    exact ⟨by dsimp only; omega, by dsimp only; omega, by dsimp only; omega⟩
  ·rintro ⟨a, b⟩ hi
   rw [List.take_of_length_le (by omega)] at hi
   unfold Jm.J2
   exact .pure hi.diff
theorem fH {c : UInt8} (hc : c = 110 ∨ c = 103 ∨ c = 113 ∨ c = 115) {k : Nat} (D : k < 26) : Uc (nm c k) = some true := by
 rcases hc with rfl | rfl | rfl | rfl <;>
  rcases lT D with rfl | rfl | rfl | rfl | rfl | rfl | rfl | rfl | rfl | rfl | rfl | rfl | rfl | rfl | rfl | rfl | rfl | rfl | rfl | rfl | rfl | rfl | rfl | rfl | rfl | rfl <;> kernel_rfl
theorem iR {c : UInt8} {l : List ByteArray} (h : Named c l) : Nw l = some false := by
 have : Ok (Nw l) fun r => r = false := by
  obtain ⟨h1, h2⟩ := h
  unfold Nw
  refine .bind' (.forL (fun _ _ => True) (fun _ => False) trivial ?_ (fun _ _ => .pure rfl) fun _ h => h.elim)
  intro k x _ hx _
  have O := (gs hx).1
  unfold Nw.B2
  refine .bind (Q := fun d : Bool ⊕ Unit => d = .inr ()) ?_ ?_
  ·refine .loop (fun st : Int => 0 ≤ st ∧ st ≤ (k : Int)) (fun st => k - st.toNat) ⟨by omega, by omega⟩ (by omega) ?_
   rintro st ⟨M, X⟩
   unfold Nw.B4
   refine Bb (fun W => .bind' (.ix' M (by omega) fun j y Y hy => A9 (fun he => ?_) fun _ => .pure ?_)) fun _ => .pure rfl
   ·have D := h2 k x hx; have G := h2 j y hy
    subst D; subst G
    have := dY (by omega) (by omega) he
    omega
   ·rw [Bg (by omega)]
    exact ⟨⟨by omega, by omega⟩, by omega⟩
  ·rintro _ rfl
   exact .pure trivial
 obtain ⟨r, h, rfl⟩ := this
 exact h
theorem fE {nodes k : Nat} {s : Segment} (h : SegOk nodes k s) : Nf s = some true := by
 have : Ok (Nf s) fun r => r = true := by
  have D := h.points
  have h1 := h.ends; have h2 := h.cap; have h3 := h.resist; have h4 := h.wave; have h5 := D.len
  have O : s.Points[0]? = some s.Points[0] := gq (by omega)
  have W : s.Points[s.Points.length - 1]? = some s.Points[s.Points.length - 1] := gq (by omega)
  have q0 := D.first _ O; have ql := D.last _ W
  unfold Nf
  refine Cc (fun h => by omega) fun _ => Dd (fun hb => by simp [Cl] at hb; omega) fun _ => Dd (fun hb => by simp [Cl] at hb; omega) fun _ => Dd (fun hb => by simp [Cl] at hb; omega) fun _ => ?_
  refine .bind' (.ix 0 rfl (by omega) (Cj (fun h => absurd q0 h) fun _ => ?_))
  rw [Bg (by omega)]
  refine .bind' (.ix (s.Points.length - 1) (by omega) (by omega) ?_)
  dsimp only
  rw [ql]
  unfold Nf.J1
  refine A9 (fun h => by simp at h) fun _ => .bind' (.forL (fun _ _ => True) (fun _ => False) trivial ?_ (fun _ _ => .pure rfl) fun _ h => h.elim)
  intro i p _ hi _
  have M := mg hi
  have g1 := D.height p M; have g2 := D.limit p M
  have no : Ok (Nf.J4 (!(Cl p.Limit 0 100000000))) (Sum.elim (fun _ : Unit => True) fun _ : Bool => False) := by
   unfold Nf.J4
   refine Dd (fun hb => by simp [Cl] at hb; omega) fun _ => .pure trivial
  unfold Nf.B3
  refine Bb (fun X => ?_) fun X => Dd (fun hb => by simp [Cl] at hb; omega) fun _ => no
  rw [Bg (by have := (gs hi).1; omega)]
  obtain ⟨j, rfl⟩ : ∃ j, i = j + 1 := ⟨i - 1, by omega⟩
  have G : j < s.Points.length := by have := (gs hi).1; omega
  have Y : s.Points[j]? = some s.Points[j] := gq G
  have Z := D.up j _ p Y hi
  refine .bind' (.ix j (by omega) G (Bb (fun h => by dsimp only at h; omega) fun _ => Dd (fun hb => by simp [Cl] at hb; omega) fun _ => no))
 obtain ⟨r, h, rfl⟩ := this
 exact h
theorem Pa {n : Network} (h : NetOk n) : G6 n = some 0 := by
 have : Ok (G6 n) fun r => r = 0 := by
  have h1 := h.nodes; have h2 := h.segs1; have h3 := h.ports1; have h4 := h.sts1; have h5 := h.vapour; have h6 := h.settle
  have T : ∀ {α β : Type} {l : List α} {f : Nat → α → Unit → Option (Unit ⊕ β)} {K : Unit ⊕ β → Option β} {P : β → Prop}, (∀ k x, l[k]? = some x → f k x () = some (.inl ())) → Ok (K (.inl ())) P → Ok ((forL f 0 l ()).bind K) P := by
   intro α β l f K P hf W
   refine .bind' (.forL (fun _ _ => True) (fun _ => False) trivial (fun k x st hx _ => ?_) (fun _ _ => W) fun _ h => h.elim)
   exact ⟨_, hf k x hx, trivial⟩
  unfold G6
  refine A9 (fun hb => by simp [Cl] at hb; omega) fun _ => T (fun k x hx => ?_) ?_
  ·have := (h.segs k x hx).points.len
   unfold G6.B24; rw [if_neg (by simp [Cl]; omega)]
  simp only [Sum.elim_inl]
  unfold G6.J1
  refine .bind (Rw (by omega) (by omega) (by omega)) fun r M => ?_
  have G : ∀ (k : Nat) (D : k < 4), r.l[k]'(by rw [M]; exact D) = ([n.Nodes, n.Segments.map (·.Name), n.Ports.map (·.Name), n.Stations.map (·.Name)])[k]'D := fun k D => by simp only [M]
  refine .bind' (.forI (fun _ _ => True) (fun _ => False) trivial ?_ ?_ fun _ h => h.elim)
  ·intro k _ D _
   obtain ⟨c, hc, hl⟩ := h.named _ (List.getElem_mem (l := [n.Nodes, n.Segments.map (·.Name), n.Ports.map (·.Name), n.Stations.map (·.Name)]) (n := k) D)
   unfold G6.B21
   refine .bind' (.ix k rfl (by rw [M]; exact D) ?_)
   dsimp only
   rw [G k D]
   refine .bind' (.forL (fun _ _ => True) (fun _ => False) trivial ?_ (fun _ _ => .pure trivial) fun _ h => h.elim)
   intro j x _ hx _
   have := hl.2 j x hx
   have X := (gs hx).1
   subst this
   unfold G6.B23
   rw [fH hc (by have := hl.1; omega)]
   exact .bind' (.pure (Dd (fun h => by cases h) fun _ => .pure trivial))
  intro _ _
  simp only [Sum.elim_inl]
  unfold G6.J2
  refine .bind' (.forI (fun _ _ => True) (fun _ => False) trivial ?_ ?_ fun _ h => h.elim)
  ·intro k _ D _
   obtain ⟨c, hc, hl⟩ := h.named _ (List.getElem_mem (l := [n.Nodes, n.Segments.map (·.Name), n.Ports.map (·.Name), n.Stations.map (·.Name)]) (n := k) D)
   unfold G6.B20
   refine .bind' (.ix k rfl (by rw [M]; exact D) ?_)
   dsimp only
   rw [G k D, iR hl]
   exact .bind' (.pure (A9 (fun h => by cases h) fun _ => .pure trivial))
  intro _ _
  simp only [Sum.elim_inl]
  unfold G6.J3
  refine .bind' (.forL (fun _ _ => True) (fun _ => False) trivial ?_ ?_ fun _ h => h.elim)
  ·intro k x _ hx _
   have Y := (gs hx).1
   unfold G6.B17
   refine .bind (Q := fun d : Int ⊕ Unit => d = .inr ()) ?_ ?_
   ·refine .loop (fun st : Int => 0 ≤ st ∧ st ≤ (k : Int)) (fun st => k - st.toNat) ⟨by omega, by omega⟩ (by omega) ?_
    rintro st ⟨O, h1⟩
    unfold G6.B19
    refine Bb (fun Z => .bind' (.ix' O (by omega) fun j y hj hy => Cc (fun he => ?_) fun _ => .pure ?_)) fun _ => .pure rfl
    ·have := h.stsUp j k y x (by omega) hy hx
     dsimp only at he; omega
    ·rw [Bg (by omega)]
     exact ⟨⟨by omega, by omega⟩, by omega⟩
   ·rintro _ rfl
    exact .pure trivial
  intro _ _
  simp only [Sum.elim_inl]
  unfold G6.J4
  refine T (fun k x hx => ?_) ?_
  ·have := (h.segs k x hx).ends
   unfold G6.B16; rw [Bg (by omega), if_neg (by simp [Cl]; omega)]
  simp only [Sum.elim_inl]
  unfold G6.J5
  refine T (fun k x hx => ?_) ?_
  ·have := (h.ports k x hx).node
   unfold G6.B15; rw [Bg (by omega), if_neg (by simp [Cl]; omega)]
  simp only [Sum.elim_inl]
  unfold G6.J6
  refine T (fun k x hx => ?_) ?_
  ·have := (h.sts k x hx).node
   unfold G6.B14; rw [Bg (by omega), if_neg (by simp [Cl]; omega)]
  simp only [Sum.elim_inl]
  unfold G6.J7
  refine T (fun k x hx => ?_) ?_
  ·unfold G6.B13; rw [fE (h.segs k x hx)]; rfl
  simp only [Sum.elim_inl]
  unfold G6.J8
  refine T (fun k x hx => ?_) ?_
  ·have := (h.ports k x hx).pressure
   unfold G6.B12; rw [if_neg (by simp [Cl]; omega)]
  simp only [Sum.elim_inl]
  unfold G6.J9
  refine T (fun k x hx => ?_) ?_
  ·have a1 := (h.sts k x hx).head; have a2 := (h.sts k x hx).fall; have a3 := (h.sts k x hx).suction
   unfold G6.B11; rw [if_neg (by simp [Cl]; omega)]
  simp only [Sum.elim_inl]
  unfold G6.J10
  exact A9 (fun hb => by simp [Cl] at hb; omega) fun _ => .pure rfl
 obtain ⟨r, h, rfl⟩ := this
 exact h
theorem Ry {n : Network} (hn : NetG n) {p : Plan} (h4 : p.Rates.length = n.Segments.length) (ab : lY n p) : Ok (Qm n p) fun r => r.length = n.Nodes.length := by
 have h1 := hn.nodes; have h2 := hn.segs1
 unfold Qm
 refine .bind' (.mk n.Nodes.length rfl (by omega) ?_)
 refine .bind (Q := fun r : List Int => r.length = n.Nodes.length) ?_ fun r Y => .pure Y
 refine .loop (fun st : List Int × List Bool => st.2.length = n.Nodes.length ∧ st.1.length = U0 st.2) (fun st => n.Nodes.length - U0 st.2)
  ⟨by simp, by simp [Ul]⟩ (by dsimp only; omega) ?_
 rintro ⟨out, D⟩ ⟨i1, i2⟩
 dsimp only at i1 i2
 have hc := Po D
 unfold Qm.B1
 refine .bind (Q := fun k : Int => (k = -1 ∧ ∀ j : Nat, D[j]? = some false → F3 n p D j) ∨ ∃ j : Nat, k = (j : Int) ∧ D[j]? = some false) ?_ ?_
 ·refine .forS (fun m (k : Int) => (k = -1 ∧ ∀ j : Nat, j < m → D[j]? = some false → F3 n p D j) ∨ ∃ j : Nat, k = (j : Int) ∧ D[j]? = some false) (.inl ⟨rfl, fun j h => absurd h (Nat.not_lt_zero _)⟩) ?_ ?_
  ·intro k x st hx G
   have hkl := (gs hx).1
   have ht : D[k]? = some D[k] := gq (by omega)
   unfold Qm.B3
   refine .bind' (.eq (Bd ht) ?_)
   refine .bind (Q := fun b => (b = true → D[k]? = some false) ∧ (b = false → D[k]? = some false → F3 n p D k)) ?_ ?_
   ·refine .forS (fun m (b : Bool) => (b = true → D[k]? = some false) ∧ (b = false → D[k]? = some false → F3 n p D k)) ?_ ?_ fun b h => h
    ·refine ⟨fun hb => ?_, fun hb hf => ?_⟩
     ·rw [ht]; simpa using hb
     ·rw [ht] at hf; simp at hf; simp [hf] at hb
    ·intro i s b hs hb
     have hil := (gs hs).1
     have Y : p.Rates[i]? = some (p.Rates[i]'(by omega)) := gq _
     generalize p.Rates[i]'(by omega) = r at Y
     have he := (hn.segs i s hs).ends
     unfold Qm.B6 Qm.J7
     refine .bind' (.eq (Bd Y) (Cj (fun Z => A9 (fun O => Cj (fun M => .pure ⟨fun _ => hb.1 O, fun h => by cases h⟩) fun M => ?_) fun ac => .pure ⟨fun h => (by cases h), fun _ => hb.2 ac⟩) fun _ => .pure hb))
     dsimp only at Z M ⊢
     rw [L3] at M
     have af : 0 ≤ (Ef s r).1 ∧ (Ef s r).1 < (n.Nodes.length : Int) := by
      unfold Ef
      split <;> dsimp only <;> omega
     rw [L3]
     refine .bind' (.ix' af.1 (by omega) fun f y hf hy => .pure ⟨fun _ => hb.1 O, fun aa _ => ⟨i, s, r, f, hs, Y, Z, M, hf, ?_⟩⟩)
     dsimp only at hy aa
     rw [hy, aa]
   ·rintro b ⟨b1, b2⟩
    unfold Qm.J5 Qm.J4
    refine A9 (fun h => .pure (.inr ⟨k, rfl, b1 ?_⟩)) fun X => .pure ?_
    ·simp at h; exact h.1
    ·rcases G with ⟨rfl, G⟩ | G
     ·refine .inl ⟨rfl, fun j hj hf => ?_⟩
      by_cases hjk : j = k
      ·subst hjk
       simp at X
       exact b2 X hf
      ·exact G j (by omega) hf
     ·exact .inr G
  ·rintro k (⟨rfl, h⟩ | h)
   ·exact .inl ⟨rfl, fun j hj => h j (by have := (gs hj).1; omega) hj⟩
   ·exact .inr h
 ·intro k hk
  unfold Qm.J2
  refine Bb (fun hneg => .pure ?_) fun h0 => ?_
  ·rcases hk with ⟨_, h⟩ | ⟨j, rfl, _⟩
   ·have := Um (ab D i1 h)
    simp only [Sum.elim_inr]
    omega
   ·omega
  ·rcases hk with ⟨rfl, _⟩ | ⟨j, rfl, W⟩
   ·exact absurd (by decide) h0
   refine .bind' (.app (by simp; omega) (.bind' (.eq (Bd W) (.pure ?_))))
   have ae := Uk W
   have ad := Po (D.set j true)
   simp at ad
   exact ⟨⟨by simp [i1], by simp [ae, i2]⟩, by dsimp only; omega⟩
theorem fV {n : Network} (G : NetG n) (W : G6 n = some 0) {p : Plan} (h : FlowOk n p) : Fo n p = some 0 := by
 have : Ok (Fo n p) fun r => r = 0 := by
  have h1 := G.nodes; have h2 := G.segs1; have h3 := G.ports1; have X := h.rl; have h5 := h.pl; have h6 := h.ml
  have Z : ∀ (k : Nat) (r : Int), p.Rates[k]? = some r → -1000 ≤ r ∧ r ≤ 1000 := fun k r D => by
   have M := (gs D).1
   have O : n.Segments[k]? = some (n.Segments[k]'(by omega)) := gq _
   have := h.rng k r _ D O
   omega
  unfold Fo
  rw [W]
  refine .bind' (.pure (Cj (fun h => absurd rfl h) fun _ => A9 (fun hb => by simp [X, h5, h6] at hb) fun _ => ?_))
  refine .bind' (.forL (fun _ _ => True) (fun _ => False) trivial ?_ ?_ fun _ h => h.elim)
  ·intro k r _ D _
   have M := (gs D).1
   have O : n.Segments[k]? = some n.Segments[k] := gq (by omega)
   have hc := (G.segs k _ O).cap
   have hg := h.rng k r _ D O
   unfold Fo.B6
   refine .bind' (.eq (Bd O) (A9 (fun hb => ?_) fun _ => .pure trivial))
   dsimp only at hb
   rw [Bg (by omega)] at hb
   simp at hb; omega
  intro _ _
  simp only [Sum.elim_inl]
  unfold Fo.J1
  refine .bind' (.forL (fun _ _ => True) (fun _ => False) trivial ?_ ?_ fun _ h => h.elim)
  ·intro k x _ hx _
   have := h.prt k x hx
   unfold Fo.B5
   exact A9 (fun hb => by simp at hb; omega) fun _ => .pure trivial
  intro _ _
  simp only [Sum.elim_inl]
  unfold Fo.J2
  refine .bind' (.forL (fun _ _ => True) (fun _ => False) trivial ?_ ?_ fun _ h => h.elim)
  ·intro k x _ hx _
   have M := (gs hx).1
   unfold Fo.B4
   refine .bind (Yv G X h5 Z h.prt k) fun r D => Cj (fun Y => ?_) fun _ => .pure trivial
   have := h.bal k (by omega)
   omega
  intro _ _
  simp only [Sum.elim_inl]
  unfold Fo.J3
  exact .bind (Ry G X h.acyc) fun r D => Cj (fun Y => by omega) fun _ => .pure rfl
 obtain ⟨r, h, rfl⟩ := this
 exact h
theorem Lp {n : Network} (D : NetOk n) {p : Plan} (h : FlowOk n p) : Fo n p = some 0 := fV D.g (Pa D) h
theorem iN {x : Path} (h : x.Hops.length ≤ 1000) (r : Int) : P4 x r = some ⟨x.In, x.Out, x.Hops, r⟩ := by
 unfold P4 K5
 rw [Ex (by simp; omega)]; rfl
def kM (k : Nat) (x : Path) : Bool := x.Hops.any fun h => h.Segment == (k : Int)
def Ru (k : Nat) : List Hop → Int
 | [] => 0
 | h :: t => (if h.Segment = (k : Int) then 1 else 0) + Ru k t
theorem Sh {k : Nat} : ∀ {l : List Hop}, (∀ h, h ∈ l → h.Segment ≠ (k : Int)) → Ru k l = 0
 | [], _ => rfl
 | h :: l, hh => by
  simp only [Ru]
  rw [if_neg (hh h (by simp)), Sh fun x hx => hh x (by simp [hx])]; rfl
theorem Vm {k : Nat} : ∀ {l : List Hop} {i : Nat} {h : Hop}, l[i]? = some h → h.Segment = (k : Int) → (∀ (j : Nat) (x : Hop), j ≠ i → l[j]? = some x → x.Segment ≠ (k : Int)) → Ru k l = 1
 | [], i, h, hi, _, _ => by simp at hi
 | x :: l, 0, h, hi, hk, ho => by
  simp at hi; subst hi
  simp only [Ru]
  rw [if_pos hk, Sh fun y hy => ?_]; omega
  obtain ⟨j, D⟩ := List.getElem?_of_mem hy
  exact ho (j + 1) y (by omega) (by simpa using D)
 | x :: l, i + 1, h, hi, hk, ho => by
  simp only [Ru]
  rw [if_neg (ho 0 x (by omega) rfl), Vm (i := i) (by simpa using hi) hk fun j y D hy => ho (j + 1) y (by omega) (by simpa using hy)]; omega
theorem PathOk.over {n : Network} {up : Bool} {p : Plan} (hr : Res n up p.Rates p.Ports) {x : Path} (hx : PathOk n p x) {k : Nat} {r : Int} (hk : p.Rates[k]? = some r) :
  (kM k x = false ∧ C7 x.Rate k x.Hops = 0) ∨ (kM k x = true ∧ Ru k x.Hops = 1 ∧ (0 < r ∧ C7 x.Rate k x.Hops = x.Rate ∨ r < 0 ∧ C7 x.Rate k x.Hops = -x.Rate)) := by
 obtain ⟨i, o, p0, po, y0, y1, nd, e1, e2, e3, e4, e5, e6, e7, e8, w, e9, aa, ab, ac, ad⟩ := hx
 by_cases M : ∃ (i : Nat) (h : Hop), x.Hops[i]? = some h ∧ h.Segment = (k : Int)
 ·obtain ⟨j, h, D, G⟩ := M
  have once : ∀ (Y : Nat) (y : Hop), Y ≠ j → x.Hops[Y]? = some y → y.Segment ≠ (k : Int) := fun Y y W hy he => W (w.once hr hy D (he.trans G.symm))
  obtain ⟨k', s, r', q1, q2, Z, q4⟩ := w.hop j h D
  have : k = k' := by omega
  subst this
  rw [hk] at Z; simp at Z; subst Z
  refine .inr ⟨List.any_eq_true.2 ⟨h, mg D, by simp [G]⟩, Vm D G once, ?_⟩
  rw [Js D G once]
  unfold Hj
  rcases q4 with ⟨b, q, _⟩ | ⟨b, q, _⟩
  ·exact .inl ⟨q, by rw [b]; rfl⟩
  ·exact .inr ⟨q, by rw [b]; rfl⟩
 ·have O : ∀ h, h ∈ x.Hops → h.Segment ≠ (k : Int) := fun h X G => by
   obtain ⟨j, D⟩ := List.getElem?_of_mem X
   exact M ⟨j, h, D, G⟩
  refine .inl ⟨?_, H8 O⟩
  unfold kM
  rw [List.any_eq_false]
  intro h X
  have := O h X
  simpa using this
theorem Yh {n : Network} {up : Bool} {p : Plan} (hr : Res n up p.Rates p.Ports) {x : Path} (hx : PathOk n p x) {rates ports : List Int} {pumps : List Bool} (hrl : rates.length = n.Segments.length) (hpl : ports.length = n.Ports.length)
  (hrb : ∀ (k : Nat) (r : Int), rates[k]? = some r → -1000000 ≤ r ∧ r ≤ 1000000) (hpb : ∀ (k : Nat) (r : Int), ports[k]? = some r → -1000000 ≤ r ∧ r ≤ 1000000) :
  Ok (Pt ⟨rates, ports, pumps⟩ x x.Rate) fun q => q.Rates.length = rates.length ∧ q.Ports.length = ports.length ∧ q.Pumps = pumps ∧ (∀ (k : Nat) (r : Int), rates[k]? = some r → q.Rates[k]? = some (r + C7 x.Rate k x.Hops)) ∧
   (∀ (k : Nat) (r : Int), ports[k]? = some r → q.Ports[k]? = some (r + D9 k x)) ∧ ∀ v, Fl (wt n v) q.Rates + Fl (wp n v) q.Ports = Fl (wt n v) rates + Fl (wp n v) ports := by
 obtain ⟨i, o, p0, po, y0, y1, nd, e1, e2, e3, e4, e5, e6, e7, e8, w, e9, e10, e11, e12, e13⟩ := hx
 have hil := (gs e3).1
 have hol := (gs e4).1
 have hne : i ≠ o := by rintro rfl; rw [e5] at e7; simp at e7; omega
 have G : ports[i]? = some (ports[i]'(by omega)) := gq _
 have hpo : ports[o]? = some (ports[o]'(by omega)) := gq _
 generalize ports[i]'(by omega) = O at G
 generalize ports[o]'(by omega) = W at hpo
 have hzi := hpb i O G
 have hzo := hpb o W hpo
 have w1 : wr (O + x.Rate) = O + x.Rate := Bg (by omega)
 have w2 : wr (W - x.Rate) = W - x.Rate := Bg (by omega)
 have M : (ports.set i (O + x.Rate))[o]? = some W := by rw [List.getElem?_set_ne hne]; exact hpo
 unfold Pt
 rw [e1, e2]
 refine .bind' (.eq (Bd G) ?_)
 dsimp only
 rw [w1]
 refine .bind' (.eq (Bd M) ?_)
 dsimp only
 rw [w2]
 refine .bind (.forS (fun j st => st.length = rates.length ∧ (∀ (k : Nat) (r : Int), rates[k]? = some r → st[k]? = some (r + C7 x.Rate k (x.Hops.take j))) ∧ ∀ v, Fl (wt n v) st = Fl (wt n v) rates + (x.Rate * ind (nd j) v - x.Rate * ind (nd 0) v)) ⟨rfl, fun k r hr => by simp [C7, hr], fun v => by omega⟩ ?_ fun st h => h) ?_
 ·rintro j h st hj ⟨i1, i2, i3⟩
  have hjl := (gs hj).1
  obtain ⟨k, s, r0, q1, q2, q3, q4⟩ := w.hop j h hj
  have hkl := (gs q2).1
  have D : rates[k]? = some (rates[k]'(by omega)) := gq _
  generalize rates[k]'(by omega) = r at D
  have Y := i2 k r D
  have hrr := hrb k r D
  have hb := G9 (rate := x.Rate) (by omega) k (x.Hops.take j)
  rw [List.length_take] at hb
  unfold Pt.B1
  rw [q1]
  refine .bind' (.eq (Bd Y) (.pure ?_))
  dsimp only
  rw [Sb (by omega)]
  have hsg : -1000 ≤ Hj x.Rate h ∧ Hj x.Rate h ≤ 1000 := by unfold Hj; split <;> omega
  rw [Bg (by omega)]
  refine ⟨by simp [i1], fun k' r' hr' => ?_, fun v => ?_⟩
  ·rw [H9 hj, Ds]
   have hkl := (gs Y).1
   by_cases hkk : k = k'
   ·subst hkk
    rw [hr'] at D; simp at D; subst D
    rw [if_pos ⟨rfl, hkl⟩, if_pos q1]; congr 1; omega
   ·rw [if_neg (fun h => hkk h.1), if_neg (by omega), i2 k' r' hr']; simp
  ·rw [Gt (Xr v q2) Y, i3 v]
   have : (ind s.To v - ind s.From v) * (r + C7 x.Rate k (x.Hops.take j) + Hj x.Rate h - (r + C7 x.Rate k (x.Hops.take j))) = x.Rate * ind (nd (j + 1)) v - x.Rate * ind (nd j) v := by
    rw [show r + C7 x.Rate k (x.Hops.take j) + Hj x.Rate h - (r + C7 x.Rate k (x.Hops.take j)) = Hj x.Rate h by omega]
    unfold Hj
    rcases q4 with ⟨b, _, Z, a2⟩ | ⟨b, _, Z, a2⟩
    ·rw [b, Z, a2, if_neg (by simp), Int.sub_mul, Int.mul_comm, Int.mul_comm (ind (nd j) v)]
    ·rw [b, Z, a2, if_pos rfl, Int.sub_mul, Int.mul_neg, Int.mul_neg, Int.mul_comm, Int.mul_comm (ind (nd (j + 1)) v)]; omega
   rw [this]; omega
 rintro st ⟨i1, i2, i3⟩
 rw [List.take_length] at i2
 refine .pure ⟨i1, by simp, rfl, i2, fun k z X => ?_, fun v => ?_⟩
 ·dsimp only
  unfold D9
  rw [e1, e2, Ds, Ds]
  by_cases hko : o = k
  ·subst hko
   rw [hpo] at X; simp at X; subst X
   rw [if_pos ⟨rfl, by simp; omega⟩, if_neg (by omega), if_pos rfl]; congr 1; omega
  ·rw [if_neg (fun h => hko h.1)]
   by_cases hki : i = k
   ·subst hki
    rw [G] at X; simp at X; subst X
    rw [if_pos ⟨rfl, by omega⟩, if_pos rfl, if_neg (by omega)]; congr 1; omega
   ·rw [if_neg (fun h => hki h.1), if_neg (by omega), if_neg (by omega), X]; simp
 ·dsimp only
  rw [i3 v, Gt (R2 v e4) M, Gt (R2 v e3) G, e9, e10]
  have Z : ind p0.Node v * (O + x.Rate - O) = x.Rate * ind p0.Node v := by rw [show O + x.Rate - O = x.Rate by omega, Int.mul_comm]
  have a2 : ind po.Node v * (W - x.Rate - W) = -(x.Rate * ind po.Node v) := by rw [show W - x.Rate - W = -x.Rate by omega, Int.mul_neg, Int.mul_comm]
  rw [Z, a2]; omega
theorem V4 {l : List Path} {k j : Nat} {x : Path} (h : l[j]? = some x) : Cw k (l.take (j + 1)) = Cw k (l.take j) + C7 x.Rate k x.Hops := by
 rw [List.take_add_one, h, F4]; simp [Cw]
theorem Ut {l : List Path} {k j : Nat} {x : Path} (h : l[j]? = some x) : Cv k (l.take (j + 1)) = Cv k (l.take j) + D9 k x := by
 rw [List.take_add_one, h, Fk]; simp [Cv]
theorem Q7 {n : Network} {p : Plan} (k : Nat) : ∀ {l : List Path}, (∀ x, x ∈ l → PathOk n p x) → -(5000 * (l.length : Int)) ≤ Cw k l ∧ Cw k l ≤ 5000 * (l.length : Int)
 | [], _ => by simp [Cw]
 | x :: l, h => by
  have ih := Q7 k (l := l) fun y hy => h y (by simp [hy])
  obtain ⟨i, o, p0, po, y0, y1, nd, W, X, Y, Z, e5, e6, e7, e8, w, e9, D, G, M, O⟩ := h x (by simp)
  have := G9 (rate := x.Rate) (by omega) k x.Hops
  simp only [Cw, List.length_cons]; omega
theorem Oy {n : Network} {p : Plan} (k : Nat) : ∀ {l : List Path}, (∀ x, x ∈ l → PathOk n p x) → -(5000 * (l.length : Int)) ≤ Cv k l ∧ Cv k l ≤ 5000 * (l.length : Int)
 | [], _ => by simp [Cv]
 | x :: l, h => by
  have ih := Oy k (l := l) fun y hy => h y (by simp [hy])
  obtain ⟨i, o, p0, po, y0, y1, nd, W, X, Y, Z, e5, e6, e7, e8, w, e9, D, G, M, O⟩ := h x (by simp)
  simp only [Cv, D9, List.length_cons]
  split <;> split <;> omega
theorem Divided.all {n : Network} {up : Bool} {p : Plan} {l : List Path} (h : Divided n up p l) : (∀ (k : Nat) (r : Int), p.Rates[k]? = some r → (0 ≤ r → 0 ≤ Cw k l ∧ Cw k l ≤ r) ∧ (r ≤ 0 → r ≤ Cw k l ∧ Cw k l ≤ 0)) ∧
  ∀ (k : Nat) (r : Int), p.Ports[k]? = some r → (0 ≤ r → 0 ≤ Cv k l ∧ Cv k l ≤ r) ∧ (r ≤ 0 → r ≤ Cv k l ∧ Cv k l ≤ 0) :=
 ⟨fun k r D => by have := h.sumR k r D; omega, fun k r D => by have := h.sumP k r D; omega⟩
theorem PathOk.small {n : Network} {p : Plan} {x : Path} (h : PathOk n p x) : x.Hops.length ≤ 5 ∧ 1 ≤ x.Rate ∧ x.Rate ≤ 1000 := by
 obtain ⟨i, o, p0, po, y0, y1, nd, W, X, Y, Z, e5, e6, e7, e8, w, e9, O, D, G, M⟩ := h
 exact ⟨D, G, M⟩
theorem Qu (a b : Int) (k : Nat) : ∀ l : List Hop, C7 (a + b) k l = C7 a k l + C7 b k l
 | [] => by simp [C7]
 | h :: l => by
  simp only [C7, Qu a b k l]
  have : Hj (a + b) h = Hj a h + Hj b h := by unfold Hj; split <;> omega
  rw [this]; split <;> omega
theorem Y5 (k : Nat) (l : List Hop) : C7 0 k l = 0 := by
 have := Qu 0 0 k l
 simp at this
 omega
theorem PathOk.rated {n : Network} {p : Plan} {x : Path} (h : PathOk n p x) {r : Int} (M : 1 ≤ r ∧ r ≤ 1000) : PathOk n p ⟨x.In, x.Out, x.Hops, r⟩ := by
 obtain ⟨i, o, p0, po, y0, y1, nd, O, Y, Z, e4, e5, e6, e7, e8, w, e9, D, G, W, X⟩ := h
 exact ⟨i, o, p0, po, y0, y1, nd, O, Y, Z, e4, e5, e6, e7, e8, w, e9, D, G, M.1, M.2⟩
theorem PathOk.sign {n : Network} {up : Bool} {p : Plan} (M : Res n up p.Rates p.Ports) {x : Path} (hx : PathOk n p x) {k : Nat} {r : Int} (G : p.Rates[k]? = some r) : (0 ≤ r → 0 ≤ C7 x.Rate k x.Hops) ∧ (r ≤ 0 → C7 x.Rate k x.Hops ≤ 0) := by
 have := hx.small
 rcases hx.over M G with ⟨_, e⟩ | ⟨_, _, ⟨D, e⟩ | ⟨D, e⟩⟩ <;> omega
theorem PathOk.psign {n : Network} {p : Plan} {x : Path} (hx : PathOk n p x) {k : Nat} {r : Int} (D : p.Ports[k]? = some r) : (0 ≤ r → 0 ≤ D9 k x) ∧ (r ≤ 0 → D9 k x ≤ 0) := by
 obtain ⟨i, o, p0, po, y0, y1, nd, O, e2, e3, e4, M, e6, G, e8, w, e9, W, X, Y, Z⟩ := hx
 unfold D9
 rw [O, e2]
 by_cases hi : i = k
 ·subst hi
  rw [M] at D; simp at D; subst D
  have : o ≠ i := by rintro rfl; rw [M] at G; simp at G; omega
  rw [if_pos rfl, if_neg (by omega)]; omega
 ·rw [if_neg (by omega)]
  by_cases ho : o = k
  ·subst ho
   rw [G] at D; simp at D; subst D
   rw [if_pos rfl]; omega
  ·rw [if_neg (by omega)]; omega
theorem Ww (i : Nat) (a b : Int) (x : Path) : D9 i ⟨x.In, x.Out, x.Hops, a⟩ + D9 i ⟨x.In, x.Out, x.Hops, b⟩ = D9 i ⟨x.In, x.Out, x.Hops, a + b⟩ := by
 unfold D9; dsimp only; split <;> split <;> omega
theorem V5 (i : Nat) (x : Path) : D9 i ⟨x.In, x.Out, x.Hops, 0⟩ = 0 := by unfold D9; dsimp only; split <;> split <;> omega
def rated (u : Path) (r : Int) : Path := ⟨u.In, u.Out, u.Hops, r⟩
theorem Y9 {a b : List Hop} : Ok (Pz a b) fun r => r = true ↔ a = b := by
 unfold Pz
 refine Cj (fun h => .pure ?_) fun h => ?_
 ·simp only [Bool.false_eq_true, false_iff]; rintro rfl; exact h rfl
 have hl : a.length = b.length := by omega
 refine .bind' (.forL (fun k _ => ∀ j : Nat, j < k → a[j]? = b[j]?) (fun r => r = false ∧ a ≠ b) (fun j h => absurd h (Nat.not_lt_zero _)) ?_ ?_ ?_)
 ·intro k x _ hx hi
  have W := (gs hx).1
  have hb : b[k]? = some (b[k]'(by omega)) := gq _
  generalize b[k]'(by omega) = y at hb
  unfold Pz.B2
  refine .bind' (.eq (Bd hb) (Dd (fun h => .pure ⟨rfl, ?_⟩) fun h => .pure fun j O => ?_))
  ·intro he; rw [he, hb] at hx; simp at hx; subst hx; simp at h
  ·have M : x = y := by
    simp at h
    cases x; cases y; simp_all
   by_cases G : j = k
   ·subst G; rw [hx, hb, M]
   ·exact hi j (by omega)
 ·intro _ hi
  simp only [Sum.elim_inl]
  unfold Pz.J1
  refine .pure ⟨fun _ => ?_, fun _ => rfl⟩
  refine List.ext_getElem? fun j => ?_
  by_cases O : j < a.length
  ·exact hi j O
  ·rw [List.getElem?_eq_none (by omega), List.getElem?_eq_none (by omega)]
 ·rintro _ ⟨rfl, h⟩
  exact .pure ⟨fun D => (by cases D), fun D => absurd D h⟩
def Alike (x y : Path) : Prop := x.In = y.In ∧ x.Out = y.Out ∧ x.Hops = y.Hops
theorem Yz {x y : Path} : Ok (Px x y) fun r => r = true ↔ Alike x y := by
 unfold Px Px.J1
 refine Cc (fun h1 => Cc (fun h2 => .bind Y9 fun r D => .pure ?_) fun h2 => .pure ?_) fun h1 => .pure ?_
 ·rw [D]; exact ⟨fun h => ⟨h1, h2, h⟩, fun h => h.2.2⟩
 ·simp only [Bool.false_eq_true, false_iff]; exact fun h => h2 h.2.1
 ·simp only [Bool.false_eq_true, false_iff]; exact fun h => h1 h.1
theorem Sj {l : List Path} {p : Path} : Ok (Nl l p) fun r => (r = -1 ∧ ∀ y, y ∈ l → ¬ Alike y p) ∨ ∃ (m : Nat) (y : Path), r = (m : Int) ∧ l[m]? = some y ∧ Alike y p := by
 unfold Nl
 refine .bind (Q := fun r => (r = -1 ∧ ∀ y, y ∈ l → ¬ Alike y p) ∨ ∃ (m : Nat) (y : Path), r = (m : Int) ∧ l[m]? = some y ∧ Alike y p) ?_ fun r D => .pure D
 unfold Ua
 refine .bind' (.forL (fun k _ => ∀ (j : Nat) (y : Path), j < k → l[j]? = some y → ¬ Alike y p) (fun r => ∃ (m : Nat) (y : Path), r = (m : Int) ∧ l[m]? = some y ∧ Alike y p) (fun j y h => absurd h (Nat.not_lt_zero _)) ?_ ?_ ?_)
 ·intro k x _ hx hi
  unfold Ua.B2 Qb
  refine .bind (.bind Yz fun r D => .pure D) fun r D => A9 (fun h => .pure ⟨k, x, rfl, hx, D.1 h⟩) fun h => .pure fun j y G hy => ?_
  by_cases M : j = k
  ·subst M
   rw [hx] at hy; simp at hy; subst hy
   intro O
   have := D.2 O
   rw [h] at this; cases this
  ·exact hi j y (by omega) hy
 ·intro _ hi
  simp only [Sum.elim_inl]
  unfold Ua.J1
  refine .pure (.inl ⟨rfl, fun y hy => ?_⟩)
  obtain ⟨j, G⟩ := List.getElem?_of_mem hy
  exact hi j y (gs G).1 G
 ·rintro b hb
  exact .pure (.inr hb)
def Ea (F : Path → Int → Int) : List Path → List Int → Int
 | u :: l, r :: rs => F u r + Ea F l rs
 | _, _ => 0
def fs (k : Nat) (u : Path) (r : Int) : Int := C7 r k u.Hops
def FP (i : Nat) (u : Path) (r : Int) : Int := D9 i (rated u r)
theorem Wq (k : Nat) (u : Path) (a b : Int) : fs k u (a + b) = fs k u a + fs k u b := Qu a b k u.Hops
theorem Ke (k : Nat) (u : Path) : fs k u 0 = 0 := Y5 k u.Hops
theorem Wr (k : Nat) (u : Path) (a b : Int) : FP k u (a + b) = FP k u a + FP k u b := (Ww k a b u).symm
theorem Kf (k : Nat) (u : Path) : FP k u 0 = 0 := V5 k u
theorem Q8 (u : Path) : rated u u.Rate = u := rfl
theorem Uf {F : Path → Int → Int} : ∀ {l : List Path} {rs : List Int} {i : Nat} {u : Path} {r x : Int}, l[i]? = some u → rs[i]? = some r → Ea F l (rs.set i x) = Ea F l rs - F u r + F u x
 | [], _, i, u, r, x, h, _ => by simp at h
 | _ :: _, [], i, u, r, x, _, h => by simp at h
 | v :: l, s :: rs, 0, u, r, x, h1, h2 => by
  simp at h1 h2; subst h1; subst h2
  simp only [List.set_cons_zero, Ea]; omega
 | v :: l, s :: rs, i + 1, u, r, x, h1, h2 => by
  have := Uf (F := F) (l := l) (rs := rs) (i := i) (x := x) (by simpa using h1) (by simpa using h2)
  simp only [List.set_cons_succ, Ea, this]; omega
theorem Ll (k : Nat) : ∀ l : List Path, Ea (fs k) l (l.map (·.Rate)) = Cw k l
 | [] => rfl
 | u :: l => by simp only [List.map_cons, Ea, Cw, Ll k l, fs]
theorem Jq (k : Nat) : ∀ l : List Path, Ea (FP k) l (l.map (·.Rate)) = Cv k l
 | [] => rfl
 | u :: l => by simp only [List.map_cons, Ea, Cv, Jq k l, FP, Q8]
theorem Pl {F : Path → Int → Int} : ∀ {l : List Path} {rs ss : List Int}, rs.length = l.length → ss.length = l.length → (∀ (i : Nat) (u : Path) (r s : Int), l[i]? = some u → rs[i]? = some r → ss[i]? = some s → F u r ≤ F u s) → Ea F l rs ≤ Ea F l ss
 | [], [], [], _, _, _ => by simp [Ea]
 | u :: l, r :: rs, s :: ss, h1, h2, h => by
  have D := h 0 u r s rfl rfl rfl
  have := Pl (F := F) (l := l) (rs := rs) (ss := ss) (by simpa using h1) (by simpa using h2) fun i v a b x y z => h (i + 1) v a b (by simpa using x) (by simpa using y) (by simpa using z)
  simp only [Ea]; omega
theorem Jp {F : Path → Int → Int} (D : ∀ u, F u 0 = 0) : ∀ l : List Path, Ea F l (l.map fun _ => 0) = 0
 | [] => rfl
 | u :: l => by simp only [List.map_cons, Ea, Jp D l, D]; rfl
def C5 (n : Network) (l : List Path) (rs : List Int) : List Int := (List.range n.Segments.length).map fun k => Ea (fs k) l rs
def Cy (n : Network) (l : List Path) (rs : List Int) : List Int := (List.range n.Ports.length).map fun k => Ea (FP k) l rs
def Cs (n : Network) (l : List Path) (rs : List Int) (pumps : List Bool) : Plan := ⟨C5 n l rs, Cy n l rs, pumps⟩
theorem Ek {n : Network} {l : List Path} {rs : List Int} {k : Nat} (h : k < n.Segments.length) : (C5 n l rs)[k]? = some (Ea (fs k) l rs) := by
 unfold C5; rw [List.getElem?_map, List.getElem?_range h]; rfl
theorem Du {n : Network} {l : List Path} {rs : List Int} {k : Nat} (h : k < n.Ports.length) : (Cy n l rs)[k]? = some (Ea (FP k) l rs) := by
 unfold Cy; rw [List.getElem?_map, List.getElem?_range h]; rfl
theorem Dr (n : Network) (l : List Path) (rs : List Int) : (C5 n l rs).length = n.Segments.length := by simp [C5]
theorem D3 (n : Network) (l : List Path) (rs : List Int) : (Cy n l rs).length = n.Ports.length := by simp [Cy]
theorem Fs {n : Network} {l : List Path} {rs : List Int} {k : Nat} {r : Int} (h : (C5 n l rs)[k]? = some r) : k < n.Segments.length ∧ r = Ea (fs k) l rs := by
 have D := (gs h).1
 rw [Dr] at D
 rw [Ek D] at h; simp at h
 exact ⟨D, h.symm⟩
theorem Ev {n : Network} {l : List Path} {rs : List Int} {k : Nat} {r : Int} (h : (Cy n l rs)[k]? = some r) : k < n.Ports.length ∧ r = Ea (FP k) l rs := by
 have D := (gs h).1
 rw [D3] at D
 rw [Du D] at h; simp at h
 exact ⟨D, h.symm⟩
structure Part (l : List Path) (rs : List Int) : Prop where
 len : rs.length = l.length
 rng : ∀ (i : Nat) (u : Path) (r : Int), l[i]? = some u → rs[i]? = some r → 0 ≤ r ∧ r ≤ u.Rate
def Les (rs ss : List Int) : Prop := ∀ (i : Nat) (r s : Int), rs[i]? = some r → ss[i]? = some s → r ≤ s
theorem Part.full {n : Network} {p : Plan} {l : List Path} (h : ∀ x, x ∈ l → PathOk n p x) : Part l (l.map (·.Rate)) := by
 refine ⟨by simp, fun i u r G D => ?_⟩
 rw [List.getElem?_map, G] at D; simp at D
 have := (h u (mg G)).small; omega
theorem Part.none {n : Network} {p : Plan} {l : List Path} (h : ∀ x, x ∈ l → PathOk n p x) : Part l (l.map fun _ => 0) := by
 refine ⟨by simp, fun i u r G D => ?_⟩
 rw [List.getElem?_map, G] at D; simp at D
 have := (h u (mg G)).small; omega
theorem Part.les_full {l : List Path} {rs : List Int} (h : Part l rs) : Les rs (l.map (·.Rate)) := by
 intro i r s G D
 rw [List.getElem?_map] at D
 cases hu : l[i]? with
 | none => rw [hu] at D; simp at D
 | some u => rw [hu] at D; simp at D; have := h.rng i u r hu G; omega
theorem Part.none_les {l : List Path} {rs : List Int} (h : Part l rs) : Les (l.map fun _ => 0) rs := by
 intro i r s D G
 rw [List.getElem?_map] at D
 cases hu : l[i]? with
 | none => rw [hu] at D; simp at D
 | some u => rw [hu] at D; simp at D; have := h.rng i u s hu G; omega
theorem Part.set {l : List Path} {rs : List Int} (h : Part l rs) {i : Nat} {u : Path} {x : Int} (M : l[i]? = some u) (hx : 0 ≤ x ∧ x ≤ u.Rate) : Part l (rs.set i x) := by
 refine ⟨by simp [h.len], fun j v r hv D => ?_⟩
 rw [Ds] at D
 split at D
 ·rename_i G
  simp at D; subst D
  rw [← G.1, M] at hv; simp at hv; subst hv; exact hx
 ·exact h.rng j v r hv D
theorem jZ {n : Network} {up : Bool} {p : Plan} (M : Res n up p.Rates p.Ports) {u : Path} (O : PathOk n p u) {k : Nat} {r : Int} (G : p.Rates[k]? = some r) {x : Int} (hx : 0 ≤ x ∧ x ≤ 1000) : (0 ≤ r → 0 ≤ fs k u x) ∧ (r ≤ 0 → fs k u x ≤ 0) := by
 by_cases D : x = 0
 ·subst D; rw [Ke]; omega
 ·exact (O.rated (r := x) (by omega)).sign M G
theorem kA {n : Network} {p : Plan} {u : Path} (M : PathOk n p u) {k : Nat} {r : Int} (G : p.Ports[k]? = some r) {x : Int} (hx : 0 ≤ x ∧ x ≤ 1000) : (0 ≤ r → 0 ≤ FP k u x) ∧ (r ≤ 0 → FP k u x ≤ 0) := by
 by_cases D : x = 0
 ·subst D; rw [Kf]; omega
 ·exact (M.rated (r := x) (by omega)).psign G
theorem Qq {n : Network} {up : Bool} {p : Plan} {l : List Path} (M : Divided n up p l) {rs ss : List Int} (h1 : Part l rs) (h2 : Part l ss) (D : Les rs ss) {k : Nat} {r : Int} (W : p.Rates[k]? = some r) :
  (0 ≤ r → Ea (fs k) l rs ≤ Ea (fs k) l ss) ∧ (r ≤ 0 → Ea (fs k) l ss ≤ Ea (fs k) l rs) := by
 have step : ∀ (i : Nat) (u : Path) (x y : Int), l[i]? = some u → rs[i]? = some x → ss[i]? = some y → (0 ≤ r → fs k u x ≤ fs k u y) ∧ (r ≤ 0 → fs k u y ≤ fs k u x) := by
  intro i u x y G hx hy
  have X := h1.rng i u x G hx; have Y := h2.rng i u y G hy; have Z := D i x y hx hy
  have O := M.paths u (mg G)
  have := O.small
  have e := Wq k u x (y - x)
  rw [show x + (y - x) = y by omega] at e
  have := jZ M.res O W (x := y - x) (by omega)
  omega
 exact ⟨fun h => Pl h1.len h2.len fun i u x y a b c => (step i u x y a b c).1 h, fun h => Pl h2.len h1.len fun i u x y a b c => (step i u y x a c b).2 h⟩
theorem H5 {n : Network} {up : Bool} {p : Plan} {l : List Path} (O : Divided n up p l) {rs ss : List Int} (h1 : Part l rs) (h2 : Part l ss) (D : Les rs ss) {k : Nat} {r : Int} (W : p.Ports[k]? = some r) :
  (0 ≤ r → Ea (FP k) l rs ≤ Ea (FP k) l ss) ∧ (r ≤ 0 → Ea (FP k) l ss ≤ Ea (FP k) l rs) := by
 have step : ∀ (i : Nat) (u : Path) (x y : Int), l[i]? = some u → rs[i]? = some x → ss[i]? = some y → (0 ≤ r → FP k u x ≤ FP k u y) ∧ (r ≤ 0 → FP k u y ≤ FP k u x) := by
  intro i u x y G hx hy
  have X := h1.rng i u x G hx; have Y := h2.rng i u y G hy; have Z := D i x y hx hy
  have M := O.paths u (mg G)
  have := M.small
  have e := Wr k u x (y - x)
  rw [show x + (y - x) = y by omega] at e
  have := kA M W (x := y - x) (by omega)
  omega
 exact ⟨fun h => Pl h1.len h2.len fun i u x y a b c => (step i u x y a b c).1 h, fun h => Pl h2.len h1.len fun i u x y a b c => (step i u y x a c b).2 h⟩
theorem Pm {n : Network} {up : Bool} {p : Plan} {l : List Path} (D : Divided n up p l) {rs : List Int} (h : Part l rs) {k : Nat} {r : Int} (G : p.Rates[k]? = some r) :
  (0 ≤ r → 0 ≤ Ea (fs k) l rs ∧ Ea (fs k) l rs ≤ r) ∧ (r ≤ 0 → r ≤ Ea (fs k) l rs ∧ Ea (fs k) l rs ≤ 0) := by
 have a := Qq D h (.full D.paths) h.les_full G
 have b := Qq D (.none D.paths) h h.none_les G
 rw [Ll, ← D.sumR k r G] at a
 rw [Jp (Ke k)] at b
 omega
theorem Gs {n : Network} {up : Bool} {p : Plan} {l : List Path} (D : Divided n up p l) {rs : List Int} (h : Part l rs) {k : Nat} {r : Int} (G : p.Ports[k]? = some r) :
  (0 ≤ r → 0 ≤ Ea (FP k) l rs ∧ Ea (FP k) l rs ≤ r) ∧ (r ≤ 0 → r ≤ Ea (FP k) l rs ∧ Ea (FP k) l rs ≤ 0) := by
 have a := H5 D h (.full D.paths) h.les_full G
 have b := H5 D (.none D.paths) h h.none_les G
 rw [Jq, ← D.sumP k r G] at a
 rw [Jp (Kf k)] at b
 omega
theorem eM {n : Network} {p : Plan} {u : Path} (D : PathOk n p u) (k : Nat) {x : Int} (hx : 0 ≤ x ∧ x ≤ 1000) : -5000 ≤ fs k u x ∧ fs k u x ≤ 5000 := by
 have h := G9 hx k u.Hops
 have := D.small
 unfold fs; omega
theorem eN (k : Nat) (u : Path) {x : Int} (hx : 0 ≤ x ∧ x ≤ 1000) : -5000 ≤ FP k u x ∧ FP k u x ≤ 5000 := by
 unfold FP D9 rated
 dsimp only
 split <;> split <;> omega
theorem Ug {F : Path → Int → Int} : ∀ {l : List Path} {rs : List Int}, (∀ (i : Nat) (u : Path) (r : Int), l[i]? = some u → rs[i]? = some r → -5000 ≤ F u r ∧ F u r ≤ 5000) → -(5000 * (l.length : Int)) ≤ Ea F l rs ∧ Ea F l rs ≤ 5000 * (l.length : Int)
 | [], _, _ => by simp [Ea]
 | _ :: _, [], _ => by simp [Ea]; omega
 | u :: l, r :: rs, h => by
  have D := h 0 u r rfl rfl
  have := Ug (F := F) (l := l) (rs := rs) fun i v s a b => h (i + 1) v s (by simpa using a) (by simpa using b)
  simp only [Ea, List.length_cons]; omega
theorem eI {n : Network} {up : Bool} {p : Plan} (G : Res n up p.Rates p.Ports) (v : Int) : ∀ {l : List Path} {rs : List Int}, (∀ x, x ∈ l → PathOk n p x) → l.length ≤ 100 → rs.length = l.length → (∀ r, r ∈ rs → 0 ≤ r ∧ r ≤ 1000) →
  Fl (wt n v) (C5 n l rs) + Fl (wp n v) (Cy n l rs) = 0
 | [], rs, _, _, hl, _ => by
  have h1 : C5 n [] rs = List.replicate n.Segments.length 0 := by
   refine List.ext_getElem? fun k => ?_
   by_cases D : k < n.Segments.length
   ·rw [Ek D]; simp [Ea, D]
   ·rw [List.getElem?_eq_none (by rw [Dr]; omega), List.getElem?_eq_none (by simp; omega)]
  have h2 : Cy n [] rs = List.replicate n.Ports.length 0 := by
   refine List.ext_getElem? fun k => ?_
   by_cases D : k < n.Ports.length
   ·rw [Du D]; simp [Ea, D]
   ·rw [List.getElem?_eq_none (by rw [D3]; omega), List.getElem?_eq_none (by simp; omega)]
  rw [h1, h2, L4, L4]; rfl
 | _ :: _, [], _, _, h, _ => by simp at h
 | u :: l, r :: rs, hp, hl, hlen, hrs => by
  have hl' : l.length + 1 ≤ 100 := by simpa using hl
  have hu := hp u (by simp)
  have hr0 := hrs r (by simp)
  have M := eI G v (l := l) (rs := rs) (fun x hx => hp x (by simp [hx])) (by omega) (by simpa using hlen) (fun x hx => hrs x (by simp [hx]))
  by_cases h0 : r = 0
  ·subst h0
   have h1 : C5 n (u :: l) (0 :: rs) = C5 n l rs := by unfold C5; simp only [Ea, Ke, Int.zero_add]
   have h2 : Cy n (u :: l) (0 :: rs) = Cy n l rs := by unfold Cy; simp only [Ea, Kf, Int.zero_add]
   rw [h1, h2]; exact M
  ·have hb : ∀ (i : Nat) (w : Path) (s : Int), l[i]? = some w → rs[i]? = some s → 0 ≤ s ∧ s ≤ 1000 := fun i w s _ hs => hrs s (List.mem_cons_of_mem _ (mg hs))
   obtain ⟨q, _, X, Y, _, Z, g5, g6⟩ := Yh (pumps := []) G (hu.rated (r := r) (by omega)) (Dr n l rs) (D3 n l rs)
    (fun k x hx => by
     obtain ⟨_, rfl⟩ := Fs hx
     have := Ug (F := fs k) (l := l) (rs := rs) fun i w s a b => eM (hp w (List.mem_cons_of_mem _ (mg a))) k (hb i w s a b)
     omega)
    (fun k x hx => by
     obtain ⟨_, rfl⟩ := Ev hx
     have := Ug (F := FP k) (l := l) (rs := rs) fun i w s a b => eN k w (hb i w s a b)
     omega)
   rw [Dr] at X
   rw [D3] at Y
   have O : q.Rates = C5 n (u :: l) (r :: rs) := by
    refine List.ext_getElem? fun k => ?_
    by_cases D : k < n.Segments.length
    ·rw [Z k _ (Ek D), Ek D]
     simp only [Ea]; congr 1; exact Int.add_comm _ _
    ·rw [List.getElem?_eq_none (by omega), List.getElem?_eq_none (by rw [Dr]; omega)]
   have W : q.Ports = Cy n (u :: l) (r :: rs) := by
    refine List.ext_getElem? fun k => ?_
    by_cases D : k < n.Ports.length
    ·rw [g5 k _ (Du D), Du D]
     simp only [Ea]; congr 1; exact Int.add_comm _ _
    ·rw [List.getElem?_eq_none (by omega), List.getElem?_eq_none (by rw [D3]; omega)]
   rw [← O, ← W, g6 v]; exact M
theorem Kh {n : Network} {up : Bool} {p : Plan} (W : PlanOk n p) {l : List Path} (M : Divided n up p l) {rs : List Int} (h : Part l rs) {pumps : List Bool} (hm : pumps.length = n.Stations.length) : PlanOk n (Cs n l rs pumps) := by
 have old : ∀ (k : Nat) (r : Int), (C5 n l rs)[k]? = some r → ∃ r0, p.Rates[k]? = some r0 ∧ (0 ≤ r0 → 0 ≤ r ∧ r ≤ r0) ∧ (r0 ≤ 0 → r0 ≤ r ∧ r ≤ 0) := fun k r G => by
  obtain ⟨hl, rfl⟩ := Fs G
  have O : p.Rates[k]? = some (p.Rates[k]'(by rw [W.rl]; exact hl)) := gq _
  exact ⟨_, O, Pm M h O⟩
 refine ⟨Dr _ _ _, D3 _ _ _, hm, fun k r s G X => ?_, fun k r G => ?_, fun v => eI M.res v M.paths (by have := M.count; omega) h.len fun r hr => ?_, ?_⟩
 ·obtain ⟨r0, a, b⟩ := old k r G
  have := W.rng k r0 s a X
  omega
 ·obtain ⟨hl, rfl⟩ := Ev G
  have O : p.Ports[k]? = some (p.Ports[k]'(by rw [W.pl]; exact hl)) := gq _
  have := Gs M h O
  have := W.prt k _ O
  omega
 ·obtain ⟨i, hi⟩ := List.getElem?_of_mem hr
  have Z := (gs hi).1
  have Y : l[i]? = some (l[i]'(by have := h.len; omega)) := gq _
  have := h.rng i _ r Y hi
  have := (M.paths _ (mg Y)).small
  omega
 ·rcases W.dir with D | D
  ·refine .inl fun k r s G X => ?_
   obtain ⟨r0, a, b⟩ := old k r G
   have := D k r0 s a X
   exact ⟨fun h => this.1 (by omega), fun h => this.2 (by omega)⟩
  ·refine .inr fun k r s G X => ?_
   obtain ⟨r0, a, b⟩ := old k r G
   have := D k r0 s a X
   exact ⟨fun h => this.1 (by omega), fun h => this.2 (by omega)⟩
theorem Jw {n : Network} {up : Bool} {p : Plan} (M : PlanOk n p) {l : List Path} (G : Divided n up p l) : Cs n l (l.map (·.Rate)) p.Pumps = p := by
 have O : C5 n l (l.map (·.Rate)) = p.Rates := by
  refine List.ext_getElem (by rw [Dr, M.rl]) fun k a b => ?_
  have D : p.Rates[k]? = some p.Rates[k] := gq b
  have h1 : (C5 n l (l.map (·.Rate)))[k]? = some (C5 n l (l.map (·.Rate)))[k] := gq a
  rw [(Fs h1).2, Ll, ← G.sumR k _ D]
 have W : Cy n l (l.map (·.Rate)) = p.Ports := by
  refine List.ext_getElem (by rw [D3, M.pl]) fun k a b => ?_
  have D : p.Ports[k]? = some p.Ports[k] := gq b
  have h1 : (Cy n l (l.map (·.Rate)))[k]? = some (Cy n l (l.map (·.Rate)))[k] := gq a
  rw [(Ev h1).2, Jq, ← G.sumP k _ D]
 unfold Cs
 rw [O, W]
theorem Ri {n : Network} {up : Bool} {p : Plan} (O : PlanOk n p) {l : List Path} (M : Divided n up p l) {rs ss : List Int} (h1 : Part l rs) (h2 : Part l ss) (G : Les rs ss) {v : Int}
  (h : E4 n (C5 n l rs) (Cy n l rs) v) : E4 n (C5 n l ss) (Cy n l ss) v := by
 rcases h with ⟨i, q, x, a, b, c, d⟩ | ⟨k, s, r, a, b, c, d⟩
 ·obtain ⟨hl, rfl⟩ := Ev c
  have D : p.Ports[i]? = some (p.Ports[i]'(by rw [O.pl]; exact hl)) := gq _
  have W := H5 M h1 h2 G D
  have X := Gs M h1 D
  exact .inl ⟨i, q, _, a, b, Du hl, by omega⟩
 ·obtain ⟨hl, rfl⟩ := Fs b
  have D : p.Rates[k]? = some (p.Rates[k]'(by rw [O.rl]; exact hl)) := gq _
  have W := Qq M h1 h2 G D
  have X := Pm M h1 D
  refine .inr ⟨k, s, _, a, Ek hl, c, ?_⟩
  rcases d with d | d
  ·exact .inl ⟨by omega, d.2⟩
  ·exact .inr ⟨by omega, d.2⟩
instance (x y : Path) : Decidable (Alike x y) := by unfold Alike; infer_instance
theorem Alike.symm {x y : Path} (h : Alike x y) : Alike y x := ⟨h.1.symm, h.2.1.symm, h.2.2.symm⟩
theorem Alike.trans {x y z : Path} (h : Alike x y) (k : Alike y z) : Alike x z := ⟨h.1.trans k.1, h.2.1.trans k.2.1, h.2.2.trans k.2.2⟩
def mr : List Path → Path → Int
 | [], _ => 0
 | y :: l, u => if Alike y u then min u.Rate y.Rate else mr l u
def G0 : List Path → Prop
 | [] => True
 | u :: l => (∀ y, y ∈ l → ¬ Alike u y) ∧ G0 l
theorem Divided.apt {n : Network} {up : Bool} {p : Plan} {l : List Path} (h : Divided n up p l) : G0 l := by
 have : ∀ l : List Path, (∀ (i j : Nat) (x y : Path), i < j → l[i]? = some x → l[j]? = some y → ¬ (x.In = y.In ∧ x.Out = y.Out ∧ x.Hops = y.Hops)) → G0 l := by
  intro l
  induction l with
  | nil => intro _; trivial
  | cons u l ih =>
   intro h
   refine ⟨fun y hy => ?_, ih fun i j x y D hx hy => h (i + 1) (j + 1) x y (by omega) (by simpa using hx) (by simpa using hy)⟩
   obtain ⟨j, G⟩ := List.getElem?_of_mem hy
   exact h 0 (j + 1) u y (by omega) rfl (by simpa using G)
 exact this l h.apart
theorem O7 : ∀ {l : List Path} {u : Path}, (∀ y, y ∈ l → ¬ Alike y u) → mr l u = 0
 | [], _, _ => rfl
 | y :: l, u, h => by simp only [mr]; rw [if_neg (h y (by simp))]; exact O7 fun z D => h z (by simp [D])
theorem Xy : ∀ {l : List Path} {u : Path} {k : Nat} {y : Path}, G0 l → l[k]? = some y → Alike y u → mr l u = min u.Rate y.Rate
 | [], _, k, _, _, h, _ => by simp at h
 | z :: l, u, 0, y, _, h, ha => by simp at h; subst h; simp only [mr]; rw [if_pos ha]
 | z :: l, u, k + 1, y, hp, h, ha => by
  have hy : l[k]? = some y := by simpa using h
  simp only [mr]
  rw [if_neg fun D => hp.1 y (mg hy) (D.trans ha.symm)]
  exact Xy hp.2 hy ha
theorem Ik : ∀ {l : List Path} {u : Path}, (∀ y, y ∈ l → 1 ≤ y.Rate) → 1 ≤ u.Rate → 0 ≤ mr l u ∧ mr l u ≤ u.Rate
 | [], _, _, h => by simp only [mr]; omega
 | y :: l, u, h, hu => by
  have := h y (by simp)
  have := Ik (l := l) (u := u) (fun z D => h z (by simp [D])) hu
  simp only [mr]; split <;> omega
theorem Part.common {n m : Network} {p q : Plan} {a b : List Path} (M : ∀ x, x ∈ a → PathOk n p x) (hb : ∀ x, x ∈ b → PathOk m q x) : Part a (a.map (mr b)) := by
 refine ⟨by simp, fun i u r G D => ?_⟩
 rw [List.getElem?_map, G] at D; simp at D; subst D
 exact Ik (fun y hy => (hb y hy).small.2.1) (M u (mg G)).small.2.1
theorem X6 {F : Path → Int → Int} (D : ∀ u a b, F u (a + b) = F u a + F u b) {f g : Path → Int} : ∀ b : List Path, Ea F b (b.map fun y => f y + g y) = Ea F b (b.map f) + Ea F b (b.map g)
 | [] => rfl
 | y :: b => by simp only [List.map_cons, Ea, X6 D b, D]; omega
theorem X5 {F : Path → Int → Int} (D : ∀ u, F u 0 = 0) (M : ∀ u v r, Alike u v → F u r = F v r) {u : Path} : ∀ {b : List Path}, G0 b → Ea F b (b.map fun y => if Alike u y then min y.Rate u.Rate else 0) = F u (mr b u)
 | [], _ => by simp only [List.map_nil, Ea, mr, D]
 | y :: b, hp => by
  simp only [List.map_cons, Ea, mr]
  by_cases h : Alike u y
  ·rw [if_pos h, if_pos h.symm, ← M u y _ h]
   have : Ea F b (b.map fun y => if Alike u y then min y.Rate u.Rate else 0) = 0 := by
    rw [show (b.map fun y => if Alike u y then min y.Rate u.Rate else 0) = b.map fun _ => (0 : Int) from List.map_congr_left fun z W => if_neg fun G => hp.1 z W (h.symm.trans G)]
    exact Jp D b
   rw [this, show min y.Rate u.Rate = min u.Rate y.Rate by omega]; omega
  ·rw [if_neg h, if_neg fun O => h O.symm, D, X5 D M hp.2]; omega
theorem Ld {F : Path → Int → Int} (D : ∀ u, F u 0 = 0) (O : ∀ u a b, F u (a + b) = F u a + F u b) (M : ∀ u v r, Alike u v → F u r = F v r) :
  ∀ {a b : List Path}, G0 a → G0 b → Ea F a (a.map (mr b)) = Ea F b (b.map (mr a))
 | [], b, _, _ => by
  rw [show b.map (mr []) = b.map fun _ => (0 : Int) from rfl, Jp D]; rfl
 | u :: a, b, ha, hb => by
  have X := Ld D O M ha.2 hb
  have e : b.map (mr (u :: a)) = b.map fun y => (if Alike u y then min y.Rate u.Rate else 0) + mr a y := by
   refine List.map_congr_left fun y _ => ?_
   simp only [mr]
   by_cases h : Alike u y
   ·rw [if_pos h, if_pos h, O7 fun z W G => ha.1 z W (h.trans G.symm)]; omega
   ·rw [if_neg h, if_neg h]; omega
  rw [e, X6 O b, X5 D M hb]
  simp only [List.map_cons, Ea, X]
theorem Q1 (k : Nat) (u v : Path) (r : Int) (h : Alike u v) : fs k u r = fs k v r := by unfold fs; rw [h.2.2]
theorem Q2 (k : Nat) (u v : Path) (r : Int) (h : Alike u v) : FP k u r = FP k v r := by unfold FP D9 rated; dsimp only; rw [h.1, h.2.1]
theorem O1 {n : Network} {a b : List Path} (D : G0 a) (hb : G0 b) (pumps : List Bool) : Cs n a (a.map (mr b)) pumps = Cs n b (b.map (mr a)) pumps := by
 unfold Cs C5 Cy
 rw [List.map_congr_left fun k _ => Ld (Ke k) (Wq k) (Q1 k) D hb, List.map_congr_left fun k _ => Ld (Kf k) (Wr k) (Q2 k) D hb]
def CS (n : Network) (rates : List Int) (k : Nat) (v : Int) : Prop := ∃ (i : Nat) (s : Segment) (r : Int), i < k ∧ n.Segments[i]? = some s ∧ rates[i]? = some r ∧ (0 < r ∧ s.To = v ∨ r < 0 ∧ s.From = v)
def CP (n : Network) (ports : List Int) (k : Nat) (v : Int) : Prop := ∃ (i : Nat) (p : Port) (x : Int), i < k ∧ n.Ports[i]? = some p ∧ p.Node = v ∧ ports[i]? = some x ∧ 0 < x
theorem Yk {n : Network} {rates : List Int} {k : Nat} {v : Int} {s : Segment} {r : Int} (X : n.Segments[k]? = some s) (W : rates[k]? = some r) : CS n rates (k + 1) v ↔ CS n rates k v ∨ (0 < r ∧ s.To = v ∨ r < 0 ∧ s.From = v) := by
 constructor
 ·rintro ⟨i, O, M, h1, h2, D, G⟩
  by_cases h : i = k
  ·subst h; rw [X] at h2; rw [W] at D; simp at h2 D; subst h2; subst D; exact .inr G
  ·exact .inl ⟨i, O, M, by omega, h2, D, G⟩
 ·rintro (⟨i, O, M, h1, h2, D, G⟩ | h)
  ·exact ⟨i, O, M, by omega, h2, D, G⟩
  ·exact ⟨k, s, r, by omega, X, W, h⟩
theorem Yl {n : Network} {ports : List Int} {k : Nat} {v : Int} {p : Port} {x : Int} (Y : n.Ports[k]? = some p) (X : ports[k]? = some x) : CP n ports (k + 1) v ↔ CP n ports k v ∨ (p.Node = v ∧ 0 < x) := by
 constructor
 ·rintro ⟨i, W, O, h1, h2, G, D, M⟩
  by_cases h : i = k
  ·subst h; rw [Y] at h2; rw [X] at D; simp at h2 D; subst h2; subst D; exact .inr ⟨G, M⟩
  ·exact .inl ⟨i, W, O, by omega, h2, G, D, M⟩
 ·rintro (⟨i, W, O, h1, h2, G, D, M⟩ | h)
  ·exact ⟨i, W, O, by omega, h2, G, D, M⟩
  ·exact ⟨k, p, x, by omega, Y, h.1, X, h.2⟩
theorem Sp {n : Network} (M : NetOk n) {rates ports : List Int} (v : Int) : E4 n rates ports v ↔ CS n rates n.Segments.length v ∨ CP n ports n.Ports.length v := by
 constructor
 ·rintro (⟨i, p, x, h1, h2, G, D⟩ | ⟨i, s, r, h1, h2, _, D⟩)
  ·exact .inr ⟨i, p, x, (gs h1).1, h1, h2, G, D⟩
  ·exact .inl ⟨i, s, r, (gs h1).1, h1, h2, D⟩
 ·rintro (⟨i, s, r, _, h1, h2, D⟩ | ⟨i, p, x, _, h1, h2, G, D⟩)
  ·exact .inr ⟨i, s, r, h1, h2, (M.segs i s h1).ends.2.2.2.2, D⟩
  ·exact .inl ⟨i, p, x, h1, h2, G, D⟩
theorem V3 {n : Network} (hn : NetOk n) {p : Plan} (h : FlowOk n p) (v : Int) : Ok (Jm n p v) fun r => 0 ≤ r.1 ∧ (r.1 ≠ 0 ↔ E4 n p.Rates p.Ports v) := by
 have h1 := hn.segs1; have h2 := hn.ports1; have h4 := h.rl; have h5 := h.pl
 unfold Jm
 refine .bind (.forS (fun k st => 0 ≤ st.1 ∧ st.1 ≤ 1000 * (k : Int) ∧ (st.1 ≠ 0 ↔ CS n p.Rates k v)) ⟨by simp, by simp, by simp [CS]⟩ ?_ fun st h => h) ?_
 ·rintro k s ⟨a, b⟩ O ⟨i0, W, D⟩
  dsimp only at i0 W D
  have Z := (gs O).1
  have G : p.Rates[k]? = some p.Rates[k] := gq (by omega)
  have M := h.rng k _ s G O
  generalize p.Rates[k] = r at G M
  rw [Yk O G, ← D]
  unfold Jm.B5
  refine .bind' (.eq (Bd G) (Cc (fun X => ?_) fun X => ?_))
  ·dsimp only at X
   refine .pure ⟨i0, by dsimp only; omega, ?_⟩
   dsimp only; constructor
   ·exact .inl
   ·rintro (h | h) <;> first | exact h | omega
  ·dsimp only at X
   have j7 : ∀ c, Ok (Jm.J7 v s (a, b) (k, r) c) fun st => 0 ≤ st.1 ∧ st.1 ≤ 1000 * ((k + 1 : Nat) : Int) ∧ (st.1 ≠ 0 ↔ a ≠ 0 ∨ (0 < r ∧ s.To = v ∨ r < 0 ∧ s.From = v)) := by
    intro c
    unfold Jm.J7
    dsimp only
    rw [kI (by omega)]
    rcases T2 (s := s) X with ⟨he, hr1⟩ | ⟨he, hr1⟩ <;> rw [show Iv s r = Ef s r from rfl, he] <;> dsimp only <;>
     refine Cc (fun hv => .pure ?_) fun hv => .pure ?_ <;> dsimp only <;> first
     | (rw [Bg (by omega)]; exact ⟨by omega, by omega, by constructor <;> intro Y <;> omega⟩)
     | exact ⟨by omega, by omega, by constructor <;> intro Y <;> omega⟩
   exact Cc (fun _ => j7 _) fun _ => j7 _
 rintro ⟨a, b⟩ ⟨i0, W, D⟩
 dsimp only at i0 W D
 unfold Jm.J1
 refine .bind (.forS (fun k st => 0 ≤ st.1 ∧ st.1 ≤ 1000 * (n.Segments.length : Int) + 1000 * (k : Int) ∧ (st.1 ≠ 0 ↔ CS n p.Rates n.Segments.length v ∨ CP n p.Ports k v)) ⟨i0, by dsimp only; omega, by dsimp only; rw [D]; simp [CP]⟩ ?_ fun st h => h) ?_
 ·rintro k s ⟨a, b⟩ O ⟨i0, W, D⟩
  dsimp only at i0 W D
  have Z := (gs O).1
  have G : p.Ports[k]? = some p.Ports[k] := gq (by omega)
  have M := h.prt k _ G
  generalize p.Ports[k] = r at G M
  rw [Yl O G, ← or_assoc, ← D]
  unfold Jm.B3
  refine Cc (fun hv => .bind' (.eq (Bd G) (.pure ?_))) fun hv => .pure ?_
  ·dsimp only
   rw [Bg (x := a + max 0 r) (by omega)]
   exact ⟨by omega, by omega, by constructor <;> intro Y <;> omega⟩
  ·dsimp only
   exact ⟨by omega, by omega, by constructor <;> intro Y <;> omega⟩
 rintro ⟨a, b⟩ ⟨i0, W, D⟩
 exact .pure ⟨i0, by rw [Sp hn]; exact D⟩
theorem Sa {n : Network} (D : NetOk n) {p : Plan} (h : FlowOk n p) {v : Int} (hv : 0 ≤ v ∧ v < (n.Nodes.length : Int)) : Ok (Nn n p v) fun r => r.2 = 0 ∧ 0 ≤ r.1 ∧ (r.1 ≠ 0 ↔ E4 n p.Rates p.Ports v) := by
 unfold Nn
 rw [Lp D h]
 refine .bind' (.pure (Cj (fun h => absurd rfl h) fun _ => A9 (fun hb => ?_) fun _ => .bind (V3 D h v) fun r G => .pure ⟨rfl, G⟩))
 simp at hb; omega
def lQ (D to_ rate : Int) (v : Int) : Int := if rate < 0 then ind D v * (-rate) else ind to_ v * rate
theorem Vw {s : flow_streams} {b : Int} {f : Nat → Int} (h : Strm b s f) (hb : 0 ≤ b ∧ b ≤ 1000000) {D to_ rate : Int} (hf : D < 24) (Y : to_ < 24) (M : -1 ≤ D ∧ -1 ≤ to_)
  (W : -1000 ≤ rate ∧ rate ≤ 1000) : Ok (Jg s D to_ rate) fun r => ∀ v : Nat, v < 24 → Mj r.come v = Mj s.come v + lQ D to_ rate v := by
 have O : ∀ (D to_ rate : Int), D < 24 → to_ < 24 → -1 ≤ D ∧ -1 ≤ to_ → 0 ≤ rate ∧ rate ≤ 1000 → Ok (Jg.J1 s (D, to_, rate)) fun r => ∀ v : Nat, v < 24 → Mj r.come v = Mj s.come v + ind to_ v * rate := by
  intro D to_ rate hf Y M W
  have Z : ∀ (lv : Arr Int 24), Ok (Jg.J2 s (D, to_, rate) lv) fun r => ∀ v : Nat, v < 24 → Mj r.come v = Mj s.come v + ind to_ v * rate := by
   intro lv
   unfold Jg.J2
   refine Bb (fun G => ?_) fun G => .pure fun v hv => ?_
   ·dsimp only at G
    obtain ⟨t, rfl⟩ := El G
    have hl := s.come.h
    refine .bind' (.ix t rfl (by omega) ?_)
    have hx : s.come.l[t]? = some s.come.l[t] := gq (by omega)
    have hvx := Ka hx
    have hcx := h.come t (by omega)
    dsimp only
    rw [Bg (by omega)]
    refine .pure fun v hv => ?_
    dsimp only
    rw [O4 hv]
    by_cases X : t = v
    ·subst X; rw [if_pos rfl, Fg]; omega
    ·rw [if_neg X, Gh (a := (t : Int)) (by omega)]; omega
   ·dsimp only at G ⊢
    rw [Gh (a := to_) (by omega)]; omega
  unfold Jg.J1
  refine Bb (fun G => ?_) fun G => Z _
  dsimp only at G
  obtain ⟨t, rfl⟩ := El G
  have hl := s.leave.h
  exact .bind' (.ix t rfl (by omega) (Z _))
 unfold Jg lQ
 refine Bb (fun G => ?_) fun G => ?_
 ·rw [Bg (by omega)]
  refine (O to_ D (0 - rate) Y hf ⟨M.2, M.1⟩ (by omega)).mono fun r W v hv => ?_
  rw [W v hv, if_pos G, show 0 - rate = -rate by omega]
 ·refine (O _ _ _ hf Y M (by omega)).mono fun r W v hv => ?_
  rw [W v hv, if_neg G]
theorem Yg {a b r v : Int} : 0 ≤ lQ a b r v ∧ (lQ a b r v ≠ 0 ↔ (0 < r ∧ b = v ∨ r < 0 ∧ a = v)) := by
 unfold lQ ind
 split <;> split <;> (constructor; omega; constructor <;> intro h <;> omega)
theorem Wu {n : Network} (M : NetOk n) {p : Plan} (h : FlowOk n p) : Ok (Jd n p) fun r => ∀ v : Nat, v < 24 → 0 ≤ Mj r.come v ∧ (Mj r.come v ≠ 0 ↔ E4 n p.Rates p.Ports v) := by
 have h1 := M.nodes; have h2 := M.segs1; have h3 := M.ports1; have h4 := h.rl; have h5 := h.pl
 unfold Jd
 refine .bind (.forS (fun k st => (∃ f, Strm (1000 * k) ⟨st.1, st.2⟩ f) ∧ ∀ v : Nat, v < 24 → (Mj st.1 v ≠ 0 ↔ CS n p.Rates k v)) ⟨⟨fun _ => 0, fun v hv => ?_, fun v hv => ?_, fun v hv => ?_⟩, fun v hv => ?_⟩ ?_ fun st h => h) ?_
 ·dsimp only; rw [Iw]; omega
 ·dsimp only; rw [Iw]; omega
 ·dsimp only; rw [Iw]; rfl
 ·dsimp only; rw [Iw]; simp [CS]
 ·rintro k s st G ⟨⟨f, hi⟩, hc⟩
  have Z := (gs G).1
  have O : p.Rates[k]? = some p.Rates[k] := gq (by omega)
  have aa := h.rng k _ s O G
  have he := (M.segs k s G).ends
  unfold Jd.B4
  refine .bind' (.ix k rfl (by omega) (.bind ((T5 hi (by omega) (by omega) (by omega) (by omega) (by dsimp only; omega)).and (Vw hi (by omega) (by omega) (by omega) (by omega) (by dsimp only; omega))) fun r D => .pure ⟨⟨_, fun v hv => ?_, fun v hv => ?_, fun v hv => D.1.diff v hv⟩, fun v hv => ?_⟩))
  ·have := D.1.come v hv; dsimp only; omega
  ·have := D.1.leave v hv; dsimp only; omega
  ·have a := D.2 v hv
   dsimp only at a ⊢
   have b := hi.come v hv
   dsimp only at b
   have c := Yg (a := s.From) (b := s.To) (r := p.Rates[k]) (v := v)
   rw [Yk G O, ← hc v hv, ← c.2, a]
   constructor <;> intro W <;> omega
 ·rintro st ⟨⟨f, hi⟩, hc⟩
  unfold Jd.J1
  refine .bind (.forS (fun k st => (∃ f, Strm (8000 + 1000 * k) ⟨st.1, st.2⟩ f) ∧ ∀ v : Nat, v < 24 → (Mj st.1 v ≠ 0 ↔ CS n p.Rates n.Segments.length v ∨ CP n p.Ports k v)) ⟨⟨f, fun v hv => ?_, fun v hv => ?_, fun v hv => hi.diff v hv⟩, fun v hv => ?_⟩ ?_ fun st h => h) ?_
  ·have := hi.come v hv; dsimp only at this ⊢; omega
  ·have := hi.leave v hv; dsimp only at this ⊢; omega
  ·dsimp only; rw [hc v hv]; simp [CP]
  ·rintro k s st G ⟨⟨f, hi⟩, hc⟩
   have Z := (gs G).1
   have O : p.Ports[k]? = some p.Ports[k] := gq (by omega)
   have aa := h.prt k _ O
   have he := (M.ports k s G).node
   unfold Jd.B3
   refine .bind' (.ix k rfl (by omega) (.bind ((T5 hi (by omega) (by omega) (by omega) (by omega) (by dsimp only; omega)).and (Vw hi (by omega) (by omega) (by omega) (by omega) (by dsimp only; omega))) fun r D => .pure ⟨⟨_, fun v hv => ?_, fun v hv => ?_, fun v hv => D.1.diff v hv⟩, fun v hv => ?_⟩))
   ·have := D.1.come v hv; dsimp only; omega
   ·have := D.1.leave v hv; dsimp only; omega
   ·have a := D.2 v hv
    dsimp only at a ⊢
    have b := hi.come v hv
    dsimp only at b
    have c := Yg (a := -1) (b := s.Node) (r := p.Ports[k]) (v := v)
    rw [Yl G O, ← or_assoc, ← hc v hv, a]
    have c2 := c.2
    constructor <;> intro W
    ·by_cases h0 : Mj st.1 v = 0
     ·rcases c2.1 (by omega) with h | h
      ·exact .inr ⟨h.2, h.1⟩
      ·omega
     ·exact .inl h0
    ·rcases W with W | ⟨X, Y⟩
     ·omega
     ·have := c2.2 (.inl ⟨Y, X⟩); omega
  ·rintro st ⟨⟨f, hi⟩, hc⟩
   refine .pure fun v hv => ⟨(hi.come v hv).1, ?_⟩
   rw [Sp M]; exact hc v hv
theorem eW {n : Network} (D : NetOk n) {p : Plan} (h : FlowOk n p) {v : Int} (hv : 0 ≤ v ∧ v < (n.Nodes.length : Int)) : Ok (P6 n p v) fun r => r.2 = 0 ∧ (r.1 ≠ 0 ↔ E4 n p.Rates p.Ports v) := by
 have h1 := D.nodes
 unfold P6
 rw [Hf D h]
 refine .bind' (.pure (Cj (fun h => absurd rfl h) fun _ => A9 (fun hb => ?_) fun _ => .bind (Wu D h) fun r G => ?_))
 ·simp at hb; omega
 obtain ⟨k, rfl⟩ := El hv.1
 have hl := r.come.h
 have hx : r.come.l[k]? = some r.come.l[k] := gq (by omega)
 refine .bind' (.eq (Bd hx) (.pure ⟨rfl, ?_⟩))
 dsimp only
 rw [← Ka hx]
 exact (G k (by omega)).2
def FedP (n : Network) (p : Plan) : Prop := ∀ (i : Nat) (st : Station), n.Stations[i]? = some st → p.Pumps[i]? = some true → E4 n p.Rates p.Ports st.Node
theorem Sf {n : Network} (D : NetOk n) {p : Plan} (h : FlowOk n p) {i : Nat} {st : Station} (M : n.Stations[i]? = some st) : Ok (Nk n p (i : Int)) fun r => r = true ↔ E4 n p.Rates p.Ports st.Node := by
 unfold Nk
 refine .bind' (.eq (Bd M) (.bind (eW D h (D.sts i st M).node) fun r G => .pure ?_))
 rw [G.1, ← G.2]
 simp
theorem Su {n : Network} (D : NetOk n) {p : Plan} (h : FlowOk n p) {i : Nat} {st : Station} (M : n.Stations[i]? = some st) : Ok (Pu n p (i : Int)) fun r => r = true ↔ E4 n p.Rates p.Ports st.Node :=
 .bind (Sf D h M) fun r G => .pure G
theorem fL {n : Network} (W : NetOk n) {p : Plan} (h : FlowOk n p) (hf : FedP n p) : M3 n p = some false := by
 have : Ok (M3 n p) fun r => r = false := by
  unfold M3
  refine .bind' (.forL (fun _ _ => True) (fun _ => False) trivial ?_ (fun _ _ => .pure rfl) fun _ h => h.elim)
  intro k x _ hx _
  have G := (gs hx).1
  have O := h.ml
  unfold M3.B2
  refine A9 (fun hb => Bb (fun M => ?_) fun _ => .pure trivial) fun _ => .pure trivial
  have D : n.Stations[k]? = some n.Stations[k] := gq (by omega)
  refine .bind (Sf W h D) fun r X => ?_
  have := X.2 (hf k _ D (by rw [hx, hb]))
  subst this
  exact .pure trivial
 obtain ⟨r, h, rfl⟩ := this
 exact h
theorem dN {n : Network} (D : NetOk n) {p : Plan} (h : FlowOk n p) (hf : FedP n p) : Jj n p = some true := by
 have Z := D.sts1; have Y := h.ml
 have : Ok (Jj n p) fun r => r = true := by
  unfold Jj
  refine .bind (Q := fun d : Bool ⊕ Unit => d = .inr ()) ?_ ?_
  ·refine .loop (fun st : Int => 0 ≤ st ∧ st ≤ (n.Stations.length : Int)) (fun st => n.Stations.length - st.toNat) ⟨by omega, by omega⟩ (by omega) ?_
   rintro st ⟨W, h1⟩
   obtain ⟨k, rfl⟩ := El W
   unfold Jj.B2
   refine Bb (fun X => ?_) fun _ => .pure rfl
   have hx : p.Pumps[k]? = some (p.Pumps[k]'(by omega)) := gq _
   have O : Ok (Jj.J3 (k : Int) ()) (Sum.elim (fun s : Int => (0 ≤ s ∧ s ≤ (n.Stations.length : Int)) ∧ n.Stations.length - s.toNat < n.Stations.length - ((k : Nat) : Int).toNat) fun d => d = .inr ()) := by
    unfold Jj.J3
    rw [Bg (by omega)]
    exact .pure ⟨⟨by omega, by omega⟩, by omega⟩
   refine .bind' (.eq (Bd hx) (A9 (fun hb => ?_) fun _ => O))
   have G : n.Stations[k]? = some (n.Stations[k]'(by omega)) := gq _
   refine .bind' (.eq (Bd G) (.bind (Sa D h (D.sts k _ G).node) fun r M => ?_))
   have := M.2.2.2 (hf k _ G (by rw [hx]; exact congrArg some hb))
   refine A9 (fun hc => ?_) fun _ => O
   simp [M.1] at hc; exact absurd hc this
  ·rintro _ rfl
   exact .pure rfl
 obtain ⟨r, h, rfl⟩ := this
 exact h
end Go.Proofs.YtmaamhgjeampmaaGreat
