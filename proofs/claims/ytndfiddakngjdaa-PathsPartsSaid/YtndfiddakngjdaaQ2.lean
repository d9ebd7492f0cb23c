/- Following a flow through a network: what is left. No condition. -/
import Derived.Test.YtndfiddakngjdaaQ1
namespace Go.Proofs.Ytndfiddakngjdaa
set_option linter.unusedVariables false
set_option linter.unusedSimpArgs false
open Go.Aw

def sgn (rate : Int) (h : Hop) : Int := if h.Back = true then -rate else rate
/-- What hops with a rate carry over a segment. -/
def hsum (rate : Int) (k : Nat) : List Hop → Int
  | [] => 0
  | h :: t => (if h.Segment = (k : Int) then sgn rate h else 0) + hsum rate k t

theorem hsum_append (rate : Int) (k : Nat) : ∀ l m : List Hop, hsum rate k (l ++ m) = hsum rate k l + hsum rate k m
  | [], m => by simp [hsum]
  | h :: l, m => by simp only [List.cons_append, hsum, hsum_append rate k l m]; omega
theorem hsum_take {rate : Int} {k j : Nat} {l : List Hop} {h : Hop} (hj : l[j]? = some h) : hsum rate k (l.take (j + 1)) = hsum rate k (l.take j) + if h.Segment = (k : Int) then sgn rate h else 0 := by
  rw [List.take_add_one, hj, hsum_append]; simp [hsum]
theorem hsum_zero {rate : Int} {k : Nat} : ∀ {l : List Hop}, (∀ h, h ∈ l → h.Segment ≠ (k : Int)) → hsum rate k l = 0
  | [], _ => rfl
  | h :: l, hh => by
    simp only [hsum]
    rw [if_neg (hh h (by simp)), hsum_zero fun x hx => hh x (by simp [hx])]; rfl
theorem hsum_one {rate : Int} {k : Nat} : ∀ {l : List Hop} {i : Nat} {h : Hop}, l[i]? = some h → h.Segment = (k : Int) → (∀ (j : Nat) (x : Hop), j ≠ i → l[j]? = some x → x.Segment ≠ (k : Int)) → hsum rate k l = sgn rate h
  | [], i, h, hi, _, _ => by simp at hi
  | x :: l, 0, h, hi, hk, ho => by
    simp at hi; subst hi
    simp only [hsum]
    rw [if_pos hk, hsum_zero fun y hy => ?_]; omega
    obtain ⟨j, hj⟩ := List.getElem?_of_mem hy
    exact ho (j + 1) y (by omega) (by simpa using hj)
  | x :: l, i + 1, h, hi, hk, ho => by
    simp only [hsum]
    rw [if_neg (ho 0 x (by omega) rfl), hsum_one (i := i) (by simpa using hi) hk fun j y hj hy => ho (j + 1) y (by omega) (by simpa using hy)]; omega
theorem hsum_bnd {rate : Int} (hr : 0 ≤ rate ∧ rate ≤ 1000) (k : Nat) : ∀ l : List Hop, -(1000 * (l.length : Int)) ≤ hsum rate k l ∧ hsum rate k l ≤ 1000 * (l.length : Int)
  | [] => by simp [hsum]
  | h :: l => by
    have := hsum_bnd hr k l
    simp only [hsum, List.length_cons]
    unfold sgn
    split
    · split <;> omega
    · omega

theorem signed_eq {h : Hop} {r : Int} (hr : -1000000 ≤ r ∧ r ≤ 1000000) : L.paths_signed h r = sgn r h := by
  unfold L.paths_signed sgn
  rw [wr_id (by omega), Int.zero_sub]

/-- Over a segment a way goes at most once. -/
theorem WayIs.once {n : Network} {up : Bool} {rates ports : List Int} (h : Res n up rates ports) {hops : List Hop} {nd : Nat → Int} (w : WayIs n rates hops nd) {i j : Nat} {x y : Hop} (hx : hops[i]? = some x) (hy : hops[j]? = some y)
    (he : x.Segment = y.Segment) : i = j := by
  have hi := (List.getElem?_eq_some_iff.1 hx).1
  have hj := (List.getElem?_eq_some_iff.1 hy).1
  obtain ⟨k, s, r, e1, e2, e3, e4⟩ := w.hop i x hx
  obtain ⟨k', s', r', f1, f2, f3, f4⟩ := w.hop j y hy
  have : k = k' := by omega
  subst this
  rw [e2] at f2; simp at f2; subst f2
  rw [e3] at f3; simp at f3; subst f3
  have hn : nd i = nd j := by
    rcases e4 with ⟨_, a, b, _⟩ | ⟨_, a, b, _⟩ <;> rcases f4 with ⟨_, c, d, _⟩ | ⟨_, c, d, _⟩ <;> omega
  rcases Nat.lt_trichotomy i j with hlt | he | hlt
  · exact absurd hn (w.mono h j i hlt (by omega)).ne
  · exact he
  · exact absurd hn.symm (w.mono h i j hlt (by omega)).ne

/-- The path that is found, and what is left. -/
structure Follow (n : Network) (up : Bool) (rates ports : List Int) (i0 : Nat) (x : Path) (d : paths_divider) (o : Nat) (p0 po : Port) (x0 y : Int) (nd : Nat → Int) : Prop where
  net : d.n_ = n
  in_ : x.In = (i0 : Int)
  out : x.Out = (o : Int)
  hp0 : n.Ports[i0]? = some p0
  hpo : n.Ports[o]? = some po
  hx0 : ports[i0]? = some x0 ∧ 0 < x0
  hy : ports[o]? = some y ∧ y < 0
  way : WayIs n rates x.Hops nd
  ends : nd 0 = p0.Node ∧ nd x.Hops.length = po.Node
  len : x.Hops.length ≤ 5
  rt : 1 ≤ x.Rate ∧ x.Rate ≤ x0 ∧ x.Rate ≤ -y
  most : ∀ h, h ∈ x.Hops → x.Rate ≤ amt rates h
  tight : x.Rate = x0 ∨ x.Rate = -y ∨ ∃ h, h ∈ x.Hops ∧ x.Rate = amt rates h
  hports : d.ports = (ports.set i0 (x0 - x.Rate)).set o (y + x.Rate)
  hrates : d.rates.length = rates.length ∧ ∀ (k : Nat) (r : Int), rates[k]? = some r → d.rates[k]? = some (r - hsum x.Rate k x.Hops)
  less : ∀ (k : Nat) (r : Int), rates[k]? = some r → (0 ≤ r → 0 ≤ r - hsum x.Rate k x.Hops ∧ r - hsum x.Rate k x.Hops ≤ r) ∧ (r ≤ 0 → r ≤ r - hsum x.Rate k x.Hops ∧ r - hsum x.Rate k x.Hops ≤ 0)
  res : Res n up d.rates d.ports

theorem follow_ok {n : Network} (hn : NetOk n) {up : Bool} {rates ports : List Int} (h : Res n up rates ports) {i0 : Nat} {x0 : Int} (hx0 : ports[i0]? = some x0) (hpos : 0 < x0) :
    Ok (L.paths_divider_follow ⟨n, rates, ports⟩ (i0 : Int)) fun r => ∃ o p0 po y nd, Follow n up rates ports i0 r.1 r.2 o p0 po x0 y nd := by
  have hil := (List.getElem?_eq_some_iff.1 hx0).1
  have hp0 : n.Ports[i0]? = some (n.Ports[i0]'(by have := h.pl; omega)) := List.getElem?_eq_getElem _
  generalize n.Ports[i0]'(by have := h.pl; omega) = p0 at hp0
  have hxr := h.prt i0 x0 hx0
  unfold L.paths_divider_follow
  refine .bind' (.eq (ix_nat hx0) (.bind' (.eq (ix_nat hp0) (.bind (walk_ok hn h hp0 hx0 hpos) ?_))))
  rintro ⟨_, hops, rt⟩ ⟨o, po, y, rate, rfl, hpo, hy, hyn, w, e7⟩
  dsimp only at w e7 ⊢
  obtain ⟨nd, w1, w2, w3⟩ := w.way
  have hrate := w.rt
  have hyr := h.prt o y hy
  have hrt : 1 ≤ rt ∧ rt ≤ x0 ∧ rt ≤ -y ∧ rt ≤ rate := by omega
  have hne : i0 ≠ o := by rintro rfl; rw [hx0] at hy; simp at hy; omega
  unfold L.paths_divider_follow.J1
  dsimp only
  have hset : (ports.set i0 (wr (x0 - rt)))[o]? = some y := by rw [List.getElem?_set_ne hne]; exact hy
  refine .bind' (.eq (ix_nat hset) ?_)
  have hlen : hops.length ≤ 5 := by
    have hl := w.len; have := hn.nodes; have hat := w.at_
    unfold far at hl; split at hl <;> omega
  have hmost : ∀ h, h ∈ hops → rt ≤ amt rates h := fun x hx => by have := w.most x hx; omega
  have key : ∀ (k : Nat) (r : Int), rates[k]? = some r → hsum rt k hops = 0 ∨ (0 < r ∧ hsum rt k hops = rt ∧ rt ≤ r) ∨ (r < 0 ∧ hsum rt k hops = -rt ∧ rt ≤ -r) := by
    intro k r hr
    by_cases hex : ∃ (i : Nat) (x : Hop), hops[i]? = some x ∧ x.Segment = (k : Int)
    · obtain ⟨i, x, hx, hk⟩ := hex
      rw [hsum_one hx hk fun j y hj hy he => hj (w1.once h hy hx (he.trans hk.symm))]
      have hm := hmost x (List.mem_of_getElem? hx)
      rw [amt_at hk hr] at hm
      obtain ⟨k', s, r', e1, e2, e3, e4⟩ := w1.hop i x hx
      have : k = k' := by omega
      subst this
      rw [hr] at e3; simp at e3; subst e3
      unfold sgn
      rcases e4 with ⟨b, q, _, _⟩ | ⟨b, q, _, _⟩
      · exact .inr (.inl ⟨q, by rw [b]; rfl, by omega⟩)
      · exact .inr (.inr ⟨q, by rw [b]; rfl, by omega⟩)
    · exact .inl (hsum_zero fun x hx hk => by obtain ⟨i, hi⟩ := List.getElem?_of_mem hx; exact hex ⟨i, x, hi, hk⟩)
  refine .bind (Q := fun st => st.length = rates.length ∧ (∀ (k : Nat) (r : Int), rates[k]? = some r → st[k]? = some (r - hsum rt k hops)) ∧ ∀ v, dot (wt n v) st = dot (wt n v) rates - (rt * ind (nd hops.length) v - rt * ind (nd 0) v)) ?_ ?_
  · refine .forJ (fun j st => st.length = rates.length ∧ (∀ (k : Nat) (r : Int), rates[k]? = some r → st[k]? = some (r - hsum rt k (hops.take j))) ∧ ∀ v, dot (wt n v) st = dot (wt n v) rates - (rt * ind (nd j) v - rt * ind (nd 0) v)) ⟨rfl, fun k r hr => by simp [hsum, hr], fun v => by omega⟩ ?_ ?_
    · rintro j st hj ⟨i1, i2, i3⟩
      have hx : hops[j]? = some hops[j] := List.getElem?_eq_getElem hj
      generalize hops[j] = x at hx
      obtain ⟨k, s, r, e1, e2, e3, e4⟩ := w1.hop j x hx
      have hst := i2 k r e3
      have hrr := h.rng k r s e3 e2
      have hb := hsum_bnd (rate := rt) (by omega) k (hops.take j)
      rw [List.length_take] at hb
      unfold L.paths_divider_follow.B3
      refine .bind' (.eq (ix_nat hx) ?_)
      dsimp only
      rw [e1]
      refine .bind' (.eq (ix_nat hst) (.pure ?_))
      dsimp only
      rw [signed_eq (by omega)]
      have hsg : -1000 ≤ sgn rt x ∧ sgn rt x ≤ 1000 := by unfold sgn; split <;> omega
      rw [wr_id (by omega)]
      refine ⟨by simp [i1], fun k' r' hr' => ?_, fun v => ?_⟩
      · rw [hsum_take hx, get_set]
        have hkl := (List.getElem?_eq_some_iff.1 hst).1
        by_cases hkk : k = k'
        · subst hkk
          rw [hr'] at e3; simp at e3; subst e3
          rw [if_pos ⟨rfl, hkl⟩, if_pos e1]; congr 1; omega
        · rw [if_neg (fun h => hkk h.1), if_neg (by omega), i2 k' r' hr']; simp
      · rw [dot_set (wt_at v e2) hst, i3 v]
        have : (ind s.To v - ind s.From v) * (r - hsum rt k (hops.take j) - sgn rt x - (r - hsum rt k (hops.take j))) = -(rt * ind (nd (j + 1)) v - rt * ind (nd j) v) := by
          rw [show r - hsum rt k (hops.take j) - sgn rt x - (r - hsum rt k (hops.take j)) = -sgn rt x by omega]
          unfold sgn
          rcases e4 with ⟨b, _, q1, q2⟩ | ⟨b, _, q1, q2⟩
          · rw [b, q1, q2, if_neg (by simp), Int.sub_mul, Int.mul_neg, Int.mul_neg, Int.mul_comm, Int.mul_comm (ind (nd j) v)]; omega
          · rw [b, q1, q2, if_pos rfl, Int.neg_neg, Int.sub_mul, Int.mul_comm, Int.mul_comm (ind (nd (j + 1)) v)]; omega
        rw [this]; omega
    · rintro st ⟨i1, i2, i3⟩
      rw [List.take_length] at i2
      exact ⟨i1, i2, i3⟩
  rintro st ⟨i1, i2, i3⟩
  unfold L.paths_divider_follow.J2
  dsimp only
  have e1 : wr (x0 - rt) = x0 - rt := wr_id (by omega)
  have e2 : wr (y + rt) = y + rt := wr_id (by omega)
  rw [e1] at hset
  rw [e1, e2]
  have less : ∀ (k : Nat) (r : Int), rates[k]? = some r → (0 ≤ r → 0 ≤ r - hsum rt k hops ∧ r - hsum rt k hops ≤ r) ∧ (r ≤ 0 → r ≤ r - hsum rt k hops ∧ r - hsum rt k hops ≤ 0) := fun k r hr => by
    have := key k r hr; omega
  refine .pure ⟨o, p0, po, y, nd, rfl, rfl, rfl, hp0, hpo, ⟨hx0, hpos⟩, ⟨hy, hyn⟩, w1, ⟨w2, w3⟩, hlen, ⟨hrt.1, hrt.2.1, hrt.2.2.1⟩, hmost, ?_, rfl, ⟨i1, i2⟩, less, ⟨by dsimp only; rw [i1]; exact h.rl, by simp [h.pl], fun k r s hr hs => ?_, fun k x hk => ?_, fun v => ?_⟩⟩
  · dsimp only
    by_cases hc : rate ≤ -y
    · have : rt = rate := by omega
      rcases w.tight with ht | ⟨x, hx, ht⟩
      · exact .inl (by omega)
      · exact .inr (.inr ⟨x, hx, by omega⟩)
    · exact .inr (.inl (by omega))
  · dsimp only at hr
    have hkl := (List.getElem?_eq_some_iff.1 hr).1
    have hr0 : rates[k]? = some (rates[k]'(by omega)) := List.getElem?_eq_getElem _
    generalize rates[k]'(by omega) = r0 at hr0
    have := i2 k r0 hr0
    rw [hr] at this; simp at this
    have hl := less k r0 hr0
    have hrr := h.rng k r0 s hr0 hs
    refine ⟨by omega, by omega, fun hp => hrr.2.2.1 (by omega), fun hp => hrr.2.2.2 (by omega)⟩
  · dsimp only at hk
    rw [get_set] at hk
    split at hk
    · simp at hk; omega
    · rw [get_set] at hk
      split at hk
      · simp at hk; omega
      · exact h.prt k x hk
  · dsimp only
    rw [i3 v, dot_set (wp_at v hpo) hset, dot_set (wp_at v hp0) hx0, w2, w3]
    have := h.bal v
    have a1 : ind p0.Node v * (x0 - rt - x0) = -(rt * ind p0.Node v) := by rw [show x0 - rt - x0 = -rt by omega, Int.mul_neg, Int.mul_comm]
    have a2 : ind po.Node v * (y + rt - y) = rt * ind po.Node v := by rw [show y + rt - y = rt by omega, Int.mul_comm]
    rw [a1, a2]; omega

end Go.Proofs.Ytndfiddakngjdaa
