/- Plain proofs. No condition. -/
import Derived.Test.YtmaamhgjeampmaaGreatZwP2
import Derived.Test.YtmaamhgjeampmaaGreatZwD
import Derived.Test.YtmaamhgjeampmaaGreatZwP0
set_option maxRecDepth 100000
namespace Go.Proofs.YtmaamhgjeampmaaGreat
set_option linter.unusedVariables false
set_option linter.unusedSimpArgs false
open Go.Aw
inductive Dv (n : Network) : List Int → List Int → Nat → List Path → List Path → Prop
 | done {rates ports : Li} {k : Nat} {out : List Path} (h : ports.length ≤ k) : Dv n rates ports k out out
 | next {rates ports : Li} {k : Nat} {out a : List Path} {x : Int} (h : ports[k]? = some x) (hx : x ≤ 0) (t : Dv n rates ports (k + 1) out a) : Dv n rates ports k out a
 | path {rates ports : Li} {k : Nat} {out a : List Path} {x : Int} {r : Path × paths_divider} (h : ports[k]? = some x) (hx : 0 < x) (hf : L1 ⟨n, rates, ports⟩ (k : Int) = some r) (t : Dv n r.2.rates r.2.ports k (out ++ [r.1]) a) : Dv n rates ports k out a
theorem Dv.one {n : Nw} {rates ports : Li} {k : Nat} {out a b : List Path} (h : Dv n rates ports k out a) : Dv n rates ports k out b → a = b := by
 induction h with
 | done h =>
  intro G
  cases G with
  | done _ => rfl
  | next h2 _ _ => have := (gs h2).1; omega
  | path h2 _ _ _ => have := (gs h2).1; omega
 | next h hx t ih =>
  intro G
  cases G with
  | done h2 => have := (gs h).1; omega
  | next h2 _ t2 => exact ih t2
  | path h2 hx2 _ _ => rw [h] at h2; simp at h2; omega
 | path h hx hf t ih =>
  intro G
  cases G with
  | done h2 => have := (gs h).1; omega
  | next h2 hx2 _ => rw [h] at h2; simp at h2; omega
  | path h2 hx2 hf2 t2 => rw [hf] at hf2; cases hf2; exact ih t2
theorem mK {n : Nw} (hn : NetF n) {p : Plan} (hp : PlanOk n p) : Ok (Jj n p) fun r => Dv n p.Rates p.Ports 0 [] r.1 := by
 obtain ⟨up, Y⟩ := hp.res
 have h1 := hn.segs1; have h2 := hn.ports1; have h3 := hp.rl; have h4 := hp.pl
 have Nn : nz p.Rates + nz p.Ports ≤ 14 := by have := Lk p.Rates; have := Lk p.Ports; omega
 unfold Jj
 rw [hn.check, Yq hn hp.flow]
 refine .bind' (.pure (Cj (fun h => absurd rfl h) fun _ => .bind' (.pure (Cj (fun h => absurd rfl h) fun _ => ?_))))
 rw [M0 (by omega), M0 (by omega)]
 refine .bind' (.pure (.bind' (.pure ?_)))
 let I : Nat → List Bt × List Sg × List Port × List Sn × Int × Int × Li × Li × List Path → Prop := fun k st => ∃ M G O, st = (n.Nodes, n.Segments, n.Ports, n.Stations, n.Vapour, n.Settle, M, G, O) ∧ DInv n up p M G O ∧ ∀ a, Dv n M G k O a → Dv n p.Rates p.Ports 0 [] a
 refine .bind' (.forI (S := List Bt × List Sg × List Port × List Sn × Int × Int × Li × Li × List Path) I (fun _ => False) ⟨_, _, _, rfl, .start Y, fun a h => h⟩ ?_ ?_ fun _ h => h.elim)
 ·rintro k _ hk ⟨M, G, O, rfl, W, Z⟩
  unfold Jj.B2
  dsimp only
  refine .bind (Q := fun d : ((List Path) × Int) ⊕ (List Bt × List Sg × List Port × List Sn × Int × Int × Li × Li × List Path) => ∃ st, d = .inr st ∧ I (k + 1) st) ?_ ?_
  ·refine .loop (S := List Bt × List Sg × List Port × List Sn × Int × Int × Li × Li × List Path) (I k) (fun st => nz st.2.2.2.2.2.2.1 + nz st.2.2.2.2.2.2.2.1) ⟨M, G, O, rfl, W, Z⟩ (by have := W.count; dsimp only; omega) ?_
   rintro _ ⟨M, G, O, rfl, W, Z⟩
   have hpl := W.res.pl
   obtain ⟨x, hx⟩ : ∃ ζ, G[k]? = some ζ := ⟨_, gq (by omega)⟩
   unfold Jj.B4
   refine .bind' (.eq (A0 hx) (As (fun X => ?_) fun hneg => .pure ⟨_, rfl, M, G, O, rfl, W, fun a h => Z a (.next hx (by dsimp only at hneg; omega) h)⟩))
   dsimp only at X ⊢
   obtain ⟨⟨y, d⟩, hfo, o, p0, po, y1, nd, f⟩ := Pf hn W.res hx X
   dsimp only at f
   refine .bind' (.eq hfo ?_)
   obtain ⟨g1, g2, g3⟩ := W.follow Y f
   have hc := W.count
   have hf := f.len
   refine Ax (fun hb => ?_) fun _ => .bind' (.app (by simp; omega) (.pure ⟨⟨d.rates, d.ports, O ++ [y], ?_, g1, fun a h => Z a (.path hx X hfo h)⟩, g2⟩))
   ·simp at hb; omega
   ·rw [f.net]
  ·rintro _ ⟨st, rfl, M, G, O, rfl, W, Z⟩
   simp only [Sum.elim_inr]
   unfold Jj.J3
   exact .pure ⟨M, G, O, rfl, W, Z⟩
 ·rintro _ ⟨M, G, O, rfl, W, Z⟩
  simp only [Sum.elim_inl]
  unfold Jj.J1
  exact .pure (Z _ (.done (by have := W.res.pl; omega)))
theorem Zn {n : Nw} (hn : NetF n) {p : Plan} (hp : PlanOk n p) {a : List Path} (ha : Jj n p = some (a, 0)) : N2 n p = some (a, 0) := by
 have : Ok (N2 n p) fun r => r.2 = 0 ∧ Dv n p.Rates p.Ports 0 [] r.1 := by
  obtain ⟨up, hres⟩ := hp.res
  have h1 := hn.segs1; have h2 := hn.ports1; have h3 := hp.rl; have h4 := hp.pl
  have Nn : nz p.Rates + nz p.Ports ≤ 14 := by have := Lk p.Rates; have := Lk p.Ports; omega
  unfold N2
  rw [Mn hn hp.flow]
  refine .bind' (.pure (Cj (fun h => absurd rfl h) fun _ => .bind' (.app (by simp; omega) (.bind' (.app (by simp; omega) ?_)))))
  simp only [List.nil_append]
  refine .bind (Q := fun d : ((List Path) × Int) ⊕ List Path => ∃ a, d = .inr a ∧ Dv n p.Rates p.Ports 0 [] a) ?_ ?_
  ·refine .loop (S := Li × Li × List Path × Int) (fun G => ∃ k : Nat, G.2.2.2 = (k : Int) ∧ k ≤ n.Ports.length ∧ DInv n up p G.1 G.2.1 G.2.2.1 ∧ ∀ a, Dv n G.1 G.2.1 k G.2.2.1 a → Dv n p.Rates p.Ports 0 [] a) (fun G => n.Ports.length - G.2.2.2.toNat)
    ⟨0, rfl, by omega, .start hres, fun a h => h⟩ (by dsimp only; omega) ?_
   rintro ⟨M, ports, out, j⟩ ⟨k, hj, hk, O, Y⟩
   dsimp only at hj O Y
   subst hj
   have hpl := O.res.pl
   unfold N2.B2
   refine As (fun hlt => ?_) fun hge => .pure ⟨_, rfl, Y _ (.done (by dsimp only at hge; omega))⟩
   dsimp only at hlt
   refine .bind (Q := fun d : ((List Path) × Int) ⊕ (Li × Li × List Path) => ∃ G, d = .inr G ∧ DInv n up p G.1 G.2.1 G.2.2 ∧ ∀ a, Dv n G.1 G.2.1 (k + 1) G.2.2 a → Dv n p.Rates p.Ports 0 [] a) ?_ ?_
   ·refine .loop (S := Li × Li × List Path) (fun G => DInv n up p G.1 G.2.1 G.2.2 ∧ ∀ a, Dv n G.1 G.2.1 k G.2.2 a → Dv n p.Rates p.Ports 0 [] a) (fun G => nz G.1 + nz G.2.1) ⟨O, Y⟩ (by have := O.count; dsimp only; omega) ?_
    rintro ⟨M, ports, out⟩ ⟨O, Y⟩
    dsimp only at O Y
    have hpl := O.res.pl; have hrl := O.res.rl
    obtain ⟨x, hx⟩ : ∃ ζ, ports[k]? = some ζ := ⟨_, gq (by omega)⟩
    unfold N2.B4
    refine .bind' (.eq (A0 hx) (As (fun W => ?_) fun hneg => .pure ⟨_, rfl, O, fun a h => Y a (.next hx (by dsimp only at hneg; omega) h)⟩))
    dsimp only at W ⊢
    obtain ⟨⟨y, d⟩, hfo, o, p0, po, y1, nd, f⟩ := Pf hn O.res hx W
    dsimp only at f
    obtain ⟨g1, g2, g3⟩ := O.follow hres f
    have hc := O.count
    have hf := f.len
    obtain ⟨hx0, hx0p⟩ := f.hx0
    obtain ⟨hy, hyn⟩ := f.hy
    have hrt := f.rt
    have hxr := O.res.prt k x hx
    have hyr := O.res.prt o y1 hy
    have hne : k ≠ o := by rintro rfl; rw [hx] at hy; simp at hy; omega
    refine .bind' (.eq (mI hn O.res hx W hfo) ?_)
    refine Ax (fun hb => ?_) fun _ => ?_
    ·simp at hb; omega
    rw [f.in_, f.out]
    refine .bind' (.eq (A0 hx) ?_)
    dsimp only
    rw [Bc (x := x - y.Rate) (by omega)]
    refine .bind' (.eq (A0 (show (ports.set k (x - y.Rate))[o]? = some y1 by rw [List.getElem?_set_ne hne]; exact hy)) ?_)
    have e : (ports.set k (wr (x - y.Rate))).set o (wr (y1 + y.Rate)) = d.ports := by rw [Bc (x := x - y.Rate) (by omega), Bc (x := y1 + y.Rate) (by omega), f.hports]
    refine .bind (Q := fun rs => rs = d.rates) ?_ ?_
    ·refine .loop (S := Li × Int) (fun G => ∃ j : Nat, G.2 = (j : Int) ∧ j ≤ y.Hops.length ∧ G.1.length = M.length ∧ ∀ (m : Nat) (r : Int), M[m]? = some r → G.1[m]? = some (r - C9 y.Rate m (y.Hops.take j))) (fun G => y.Hops.length - G.2.toNat) ⟨0, rfl, by omega, rfl, fun m r Z => by simp [C9, Z]⟩ (by dsimp only; omega) ?_
     rintro ⟨G, i⟩ ⟨j, hj, hjl, hsl, X⟩
     dsimp only at hj hsl X
     subst hj
     unfold N2.B6
     refine As (fun hlt => ?_) fun hge => .pure ?_
     ·dsimp only at hlt
      obtain ⟨hp, hh⟩ : ∃ ζ, y.Hops[j]? = some ζ := ⟨_, gq (by omega)⟩
      obtain ⟨m, s, r0, q1, q2, q3, q4⟩ := f.way.hop j hp hh
      have Z := X m r0 q3
      have hrr := O.res.rng m r0 s q3 q2
      have hb := G7 (rate := y.Rate) (by omega) m (y.Hops.take j)
      rw [List.length_take] at hb
      refine .bind' (.eq (A0 hh) ?_)
      dsimp only
      rw [q1]
      have j7 : ∀ z, z = r0 - C9 y.Rate m (y.Hops.take j) - Im y.Rate hp → Ok (N2.J7 (G, (j : Int)) (G.set m z)) (Sum.elim (fun G : Li × Int => (∃ j : Nat, G.2 = (j : Int) ∧ j ≤ y.Hops.length ∧ G.1.length = M.length ∧ ∀ (m : Nat) (r : Int), M[m]? = some r → G.1[m]? = some (r - C9 y.Rate m (y.Hops.take j))) ∧ y.Hops.length - G.2.toNat < y.Hops.length - ((j : Nat) : Int).toNat) fun rs => rs = d.rates) := by
       intro z hz'
       unfold N2.J7
       refine .pure ⟨⟨j + 1, by dsimp only; rw [Bc (by omega)]; omega, by omega, by simp [hsl], fun m' r hm' => ?_⟩, by dsimp only; rw [Bc (by omega)]; omega⟩
       dsimp only
       rw [Kr hh]
       have hml := (gs Z).1
       by_cases hmm : m = m'
       ·subst hmm
        rw [hm'] at q3; simp at q3; subst q3
        rw [List.getElem?_set_self hml, if_pos q1, hz']; congr 1; omega
       ·rw [List.getElem?_set_ne hmm, X m' r hm', if_neg (by omega)]; simp
      rcases q4 with ⟨b, _⟩ | ⟨b, _⟩
      ·rw [b]
       refine Ax (fun h => by cases h) fun _ => .bind' (.eq (A0 Z) ?_)
       dsimp only
       rw [Bc (by omega)]
       exact j7 _ (by unfold Im; rw [b]; simp)
      ·rw [b]
       refine Ax (fun _ => .bind' (.eq (A0 Z) ?_)) fun h => by cases h
       dsimp only
       rw [Bc (by omega)]
       exact j7 _ (by unfold Im; rw [b]; simp)
     ·dsimp only at hge
      have : j = y.Hops.length := by omega
      subst this
      show G = d.rates
      obtain ⟨r1, r2⟩ := f.hrates
      refine List.ext_getElem? fun m => ?_
      by_cases Z : m < M.length
      ·rw [X m _ (gq Z), r2 m _ (gq Z), List.take_length]
      ·rw [List.getElem?_eq_none (by omega), List.getElem?_eq_none (by omega)]
    ·rintro _ rfl
     unfold N2.J5
     refine .bind' (.app (by simp; omega) ?_)
     dsimp only
     rw [e]
     exact .pure ⟨⟨g1, fun a h => Y a (.path hx W hfo h)⟩, g2⟩
   ·rintro _ ⟨G, rfl, O, Y⟩
    simp only [Sum.elim_inr]
    unfold N2.J3
    exact .pure ⟨⟨k + 1, by dsimp only; rw [Bc (by omega)]; omega, by omega, O, Y⟩, by dsimp only; rw [Bc (by omega)]; omega⟩
  ·rintro _ ⟨a, rfl, hd⟩
   exact .pure ⟨rfl, hd⟩
 obtain ⟨⟨b, e⟩, h, rfl, hb⟩ := this
 obtain ⟨⟨a', e'⟩, h', ha'⟩ := mK hn hp
 rw [ha] at h'; cases h'
 have := ha'.one hb
 dsimp only at this
 subst this
 exact h
theorem mW {x y : Path} (hl : x.Hops.length ≤ 1000) : Ok (Lu x y) fun r => r = true ↔ (x.In = y.In ∧ x.Out = y.Out ∧ x.Hops = y.Hops) := by
 unfold Lu
 refine Ax (fun G => .pure ?_) fun G => ?_
 ·simp only [Bool.false_eq_true, false_iff]
  rintro ⟨X, Y, W⟩
  simp [X, Y, W] at G
 simp at G
 obtain ⟨X, Y, W⟩ := G
 refine .bind (Q := fun d : Bool ⊕ Unit => (d = .inl false ∧ x.Hops ≠ y.Hops) ∨ (d = .inr () ∧ x.Hops = y.Hops)) ?_ ?_
 ·refine .loop (fun O : Int => 0 ≤ O ∧ O ≤ (x.Hops.length : Int) ∧ ∀ j : Nat, (j : Int) < O → x.Hops[j]? = y.Hops[j]?) (fun O => x.Hops.length - O.toNat) ⟨by omega, by omega, fun j hj => by omega⟩ (by omega) ?_
  rintro O ⟨h0, h4, h5⟩
  obtain ⟨k, rfl⟩ := E2 h0
  unfold Lu.B2
  refine As (fun hlt => ?_) fun hge => .pure (.inr ⟨rfl, ?_⟩)
  ·have M : x.Hops[k]? = some (x.Hops[k]'(by omega)) := gq _
   have G : y.Hops[k]? = some (y.Hops[k]'(by omega)) := gq _
   generalize x.Hops[k]'(by omega) = u at M
   generalize y.Hops[k]'(by omega) = v at G
   refine .bind' (.eq (A0 M) (.bind' (.eq (A0 G) (Ea (fun h => .pure (.inl ⟨rfl, ?_⟩)) fun h => .pure ?_))))
   ·intro he; rw [he, G] at M; simp at M; subst M; simp at h
   ·rw [Bc (by omega)]
    have ac : u = v := by
     simp at h
     cases u; cases v; simp_all
    refine ⟨⟨by omega, by omega, fun j hj => ?_⟩, by omega⟩
    by_cases Z : j = k
    ·subst Z; rw [M, G, ac]
    ·exact h5 j (by omega)
  ·refine List.ext_getElem? fun j => ?_
   by_cases hj : j < x.Hops.length
   ·exact h5 j (by omega)
   ·rw [List.getElem?_eq_none (by omega), List.getElem?_eq_none (by omega)]
 ·rintro _ (⟨rfl, h⟩ | ⟨rfl, h⟩)
  ·refine .pure ?_
   simp only [Bool.false_eq_true, false_iff]
   rintro ⟨_, _, W⟩; exact h W
  ·simp only [Sum.elim_inr]
   unfold Lu.J1
   exact .pure ⟨fun _ => ⟨X, Y, h⟩, fun _ => rfl⟩
theorem dU {x y : Path} (hl : x.Hops.length ≤ 1000) : Lu x y = some (decide (Alike x y)) := by
 obtain ⟨r, h, G⟩ := mW (y := y) hl
 rw [h]; congr 1
 cases r with
 | true => exact (decide_eq_true (G.1 rfl)).symm
 | false => exact (decide_eq_false fun h => by have := G.2 h; cases this).symm
def bE (l : List Path) (p : Path) (k : Nat) (y : Path) : Prop := l[k]? = some y ∧ Alike y p ∧ ∀ (i : Nat) (z : Path), i < k → l[i]? = some z → ¬ Alike z p
theorem dN {l : List Path} (h : ∀ x, x ∈ l → x.Hops.length ≤ 1000) (hl : l.length ≤ 1000) {p : Path} : Ok (Ou l p) fun r => (r = -1 ∧ ∀ y, y ∈ l → ¬ Alike y p) ∨ ∃ k y, r = ((k : Nat) : Int) ∧ bE l p k y := by
 unfold Ou
 refine .bind (Q := fun d : Int ⊕ Unit => (∃ k y, d = .inl ((k : Nat) : Int) ∧ bE l p k y) ∨ (d = .inr () ∧ ∀ y, y ∈ l → ¬ Alike y p)) ?_ ?_
 ·refine .loop (fun G : Int => 0 ≤ G ∧ G ≤ (l.length : Int) ∧ ∀ (i : Nat) (z : Path), (i : Int) < G → l[i]? = some z → ¬ Alike z p) (fun G => l.length - G.toNat) ⟨by omega, by omega, fun i z h => by omega⟩ (by omega) ?_
  rintro G ⟨h0, h1, Z⟩
  obtain ⟨k, rfl⟩ := E2 h0
  unfold Ou.B2
  refine As (fun hlt => ?_) fun hge => .pure (.inr ⟨rfl, fun y hy => ?_⟩)
  ·obtain ⟨x, W⟩ : ∃ ζ, l[k]? = some ζ := ⟨_, gq (by omega)⟩
   refine .bind' (.eq (A0 W) ?_)
   dsimp only
   rw [dU (h x (mg W))]
   refine .bind' (.pure (As (fun Y => .pure (.inl ⟨k, x, rfl, W, Y, fun i z ac => Z i z (by omega)⟩)) fun Y => .pure ?_))
   rw [Bc (by omega)]
   refine ⟨⟨by omega, by omega, fun i z ac X => ?_⟩, by omega⟩
   by_cases O : i = k
   ·subst O; rw [W] at X; simp at X; subst X; exact Y
   ·exact Z i z (by omega) X
  ·obtain ⟨i, M⟩ := List.getElem?_of_mem hy
   exact Z i y (by have := (gs M).1; omega) M
 ·rintro _ (⟨k, y, rfl, hf⟩ | ⟨rfl, ad⟩)
  ·exact .pure (.inr ⟨k, y, rfl, hf⟩)
  ·exact .pure (.inl ⟨rfl, ad⟩)
def rt : List Path → Path → Int
 | [], _ => 0
 | y :: l, u => if Alike y u then y.Rate else rt l u
theorem Mj : ∀ {l : List Path} {u : Path}, (∀ y, y ∈ l → ¬ Alike y u) → rt l u = 0
 | [], _, _ => rfl
 | y :: l, u, h => by simp only [rt]; rw [if_neg (h y (by simp))]; exact Mj fun z G => h z (by simp [G])
theorem Ss : ∀ {l : List Path} {u y : Path} {k : Nat}, bE l u k y → rt l u = y.Rate
 | [], u, y, k, h => by have := h.1; simp at this
 | z :: l, u, y, 0, h => by
  obtain ⟨G, M, _⟩ := h
  simp at G; subst G
  simp only [rt]; rw [if_pos M]
 | z :: l, u, y, k + 1, h => by
  obtain ⟨G, M, O⟩ := h
  simp only [rt]
  rw [if_neg (O 0 z (by omega) rfl)]
  exact Ss (k := k) ⟨by simpa using G, M, fun i w X W => O (i + 1) w (by omega) (by simpa using W)⟩
theorem cO : ∀ {l : List Path} {u : Path}, 1 ≤ u.Rate → mr l u = min u.Rate (rt l u)
 | [], _, h => by simp only [mr, rt]; omega
 | y :: l, u, h => by simp only [mr, rt]; split <;> first | rfl | exact cO h
theorem kO : ∀ {l : List Path} {u : Path}, (∀ y, y ∈ l → 1 ≤ y.Rate ∧ y.Rate ≤ 1000) → 0 ≤ rt l u ∧ rt l u ≤ 1000
 | [], _, _ => by simp [rt]
 | y :: l, u, h => by
  have := h y (by simp)
  have := kO (l := l) (u := u) fun z G => h z (by simp [G])
  simp only [rt]; split <;> omega
theorem Qn {n : Nw} {p : Plan} {b : List Path} : ∀ {a : List Path}, (∀ u, u ∈ a → PathOk n p u) → ∀ x, x ∈ Hk b a → PathOk n p x
 | [], _, x, h => by cases h
 | u :: a, hp, x, h => by
  simp only [Hk] at h
  have M := hp u (by simp)
  split at h
  ·rcases List.mem_cons.1 h with rfl | h
   ·refine M.rated ⟨by omega, ?_⟩
    have := M.small
    have := cO (l := b) this.2.1
    omega
   ·exact Qn (fun v G => hp v (by simp [G])) x h
  ·exact Qn (fun v G => hp v (by simp [G])) x h
theorem mO {b : List Path} (hb : ∀ y, y ∈ b → 1 ≤ y.Rate ∧ y.Rate ≤ 1000) {a : List Path} (h : ∀ u, u ∈ a → 1 ≤ u.Rate) : (∀ k, Cr k (Hk b a) = Gq (fs k) a (a.map (mr b))) ∧ ∀ k, Cq k (Hk b a) = Gq (FP k) a (a.map (mr b)) := by
 have G : ∀ u, u ∈ a → 0 ≤ mr b u := fun u M => by
  have := cO (l := b) (h u M); have := kO (u := u) hb; have := h u M; omega
 exact ⟨fun k => by rw [← Qe, Mo (Mq k) (Zz k) G], fun k => by rw [← Mt, Mo (Mr k) (Z0 k) G]⟩
theorem mN {a b : List Path} (Z : ∀ u, u ∈ a → u.Hops.length ≤ 1000 ∧ 1 ≤ u.Rate ∧ u.Rate ≤ 1000) (hb : ∀ u, u ∈ b → u.Hops.length ≤ 1000 ∧ 1 ≤ u.Rate ∧ u.Rate ≤ 1000) (hla : a.length ≤ 1000) (hlb : b.length ≤ 1000) : Rp a b = some (Hk b a) := by
 refine Hj ?_
 unfold Rp
 refine .bind (Q := fun r => r = Hk b a) ?_ ?_
 ·refine .loop (S := List Path × Int) (fun G => ∃ k : Nat, G.2 = (k : Int) ∧ k ≤ a.length ∧ G.1 = Hk b (a.take k)) (fun G => a.length - G.2.toNat) ⟨0, rfl, by omega, rfl⟩ (by dsimp only; omega) ?_
  rintro ⟨_, _⟩ ⟨k, rfl, hk, rfl⟩
  dsimp only at hk ⊢
  unfold Rp.B2 Rp.J3
  refine As (fun W => ?_) fun O => .pure ?_
  ·dsimp only at W
   obtain ⟨u, X⟩ : ∃ ζ, a[k]? = some ζ := ⟨_, gq (by omega)⟩
   have Y := Z u (mg X)
   have hm := cO (l := b) Y.2.1
   have e : a.take (k + 1) = a.take k ++ [u] := by rw [List.take_add_one, X]; rfl
   have M := Kk b (a.take k)
   rw [List.length_take] at M
   refine .bind' (.eq (A0 X) (.bind (dN (fun x h => (hb x h).1) (by omega)) ?_))
   rintro r (⟨rfl, h⟩ | ⟨i, y, rfl, h⟩)
   ·refine As (fun h => by omega) fun _ => .pure ⟨⟨k + 1, by dsimp only; rw [Bc (by omega)]; omega, by omega, ?_⟩, by dsimp only; rw [Bc (by omega)]; omega⟩
    have : rt b u = 0 := Mj h
    dsimp only
    rw [e, I6, if_neg (by omega), List.append_nil]
   ·refine As (fun _ => ?_) fun h => absurd (by omega) h
    have hy : rt b u = y.Rate := Ss h
    have hy2 := hb y (mg h.1)
    rw [aY Y.1]
    refine .bind' (.pure (.bind' (.eq (A0 h.1) (.bind' (.app (by simp only [List.length_cons, List.length_nil]; omega) (.pure ⟨⟨k + 1, by dsimp only; rw [Bc (by omega)]; omega, by omega, ?_⟩, by dsimp only; rw [Bc (by omega)]; omega⟩))))))
    dsimp only
    rw [e, I6, if_pos (by omega), hm, hy]; rfl
  ·dsimp only at O
   have : k = a.length := by omega
   subst this
   show Hk b (List.take a.length a) = Hk b a
   rw [List.take_length]
 rintro _ rfl
 exact .pure rfl
theorem P5 {n : Nw} {up : Bool} {p : Plan} (M : Res n up p.Rates p.Ports) {k : Nat} {r : Int} (G : p.Rates[k]? = some r) : ∀ {m : List Path}, (∀ x, x ∈ m → PathOk n p x) → (0 ≤ r → 0 ≤ Cr k m) ∧ (r ≤ 0 → Cr k m ≤ 0)
 | [], _ => by simp [Cr]
 | x :: m, h => by
  have a := (h x (by simp)).sign M G
  have b := P5 M G (m := m) fun y O => h y (by simp [O])
  simp only [Cr]; omega
theorem Yw {n : Nw} {p : Plan} (k : Nat) : ∀ {m : List Path}, (∀ x, x ∈ m → PathOk n p x) → (-(5000 * (m.length : Int)) ≤ Cr k m ∧ Cr k m ≤ 5000 * (m.length : Int)) ∧ -(5000 * (m.length : Int)) ≤ Cq k m ∧ Cq k m ≤ 5000 * (m.length : Int)
 | [], _ => by simp [Cr, Cq]
 | x :: m, h => by
  have G := h x (by simp)
  have O := G.small
  have a := lK G k (x := x.Rate) (by omega)
  have c := lL k x (x := x.Rate) (by omega)
  have b := Yw k (m := m) fun y M => h y (by simp [M])
  unfold fs at a
  unfold FP at c
  rw [Tb] at c
  simp only [Cr, Cq, List.length_cons]; omega
theorem Us {n : Nw} {rates : Li} {k : Nat} {r x : Int} (O : rates[k]? = some r) (hx : 0 ≤ x) : ∀ {l : List Hop}, (∀ h, h ∈ l → ∃ a b, HopIs n rates a h b) → (0 ≤ r → 0 ≤ C9 x k l) ∧ (r ≤ 0 → C9 x k l ≤ 0)
 | [], _ => by simp [C9]
 | h :: l, hh => by
  have Y := Us O hx (l := l) fun y W => hh y (by simp [W])
  obtain ⟨_, _, m, s, r0, Z, q2, G, X⟩ := hh h (by simp)
  simp only [C9]
  by_cases M : h.Segment = (k : Int)
  ·have : m = k := by omega
   subst this
   rw [O] at G; simp at G; subst G
   rw [if_pos M]
   unfold Im
   rcases X with ⟨b, q, _⟩ | ⟨b, q, _⟩ <;> rw [b] <;> simp <;> omega
  ·rw [if_neg M]; omega
theorem qT {n : Nw} (hn : NetF n) {up : Bool} {p : Plan} (hr : Res n up p.Rates p.Ports) (hrl : p.Rates.length = n.Segments.length) {m : List Path} (hm : ∀ x, x ∈ m → PathOk n p x) (hl : m.length ≤ 14) {q : Plan} (q1 : q.Rates.length = n.Segments.length) (q2 : q.Ports.length = n.Ports.length) (q3 : q.Pumps.length = n.Stations.length)
  (q4 : ∀ (k : Nat) (r : Int), q.Rates[k]? = some r → r = Cr k m) (q5 : ∀ (k : Nat) (r : Int), q.Ports[k]? = some r → r = Cq k m) (hc : F2 n q = some 0) : Jn n m q.Pumps = some (q, 0) := by
 have h1 := hn.segs1; have h2 := hn.ports1; have h3 := hn.sts1
 refine Hj ?_
 unfold Jn
 rw [hn.ck12]
 refine .bind' (.pure (Cj (fun h => absurd rfl h) fun _ => As (fun h => by omega) fun _ => .bind' (.mk n.Segments.length rfl (by omega) (.bind' (.mk n.Ports.length rfl (by omega) (.bind' (.app (by simp; omega) ?_)))))))
 rw [List.nil_append]
 unfold Jn.J1
 refine .bind (Q := fun d : (Plan × Int) ⊕ Unit => d = .inr ()) ?_ ?_
 ·refine .loop (fun M : Int => 0 ≤ M ∧ M ≤ (m.length : Int)) (fun M => m.length - M.toNat) ⟨by omega, by omega⟩ (by omega) ?_
  rintro M ⟨h0, h4⟩
  obtain ⟨k, rfl⟩ := E2 h0
  unfold Jn.B9
  refine As (fun af => ?_) fun _ => .pure rfl
  have hx : m[k]? = some (m[k]'(by omega)) := gq _
  refine .bind' (.eq (A0 hx) (.bind' (.eq (oY hr (hm _ (mg hx))) (Ea (fun h => by cases h) fun _ => .pure ?_))))
  rw [Bc (by omega)]; exact ⟨⟨by omega, by omega⟩, by omega⟩
 rintro _ rfl
 simp only [Sum.elim_inr]
 unfold Jn.J2
 refine .bind (Q := fun d : (Plan × Int) ⊕ (Li × Li) => d = .inr (q.Rates, q.Ports)) ?_ ?_
 ·refine .loop (S := Li × Li × Int) (fun M => ∃ j : Nat, M.2.2 = (j : Int) ∧ j ≤ m.length ∧ M.1.length = n.Segments.length ∧ (∀ (k : Nat) (r : Int), M.1[k]? = some r → r = Cr k (m.take j)) ∧ M.2.1.length = n.Ports.length ∧ ∀ (k : Nat) (r : Int), M.2.1[k]? = some r → r = Cq k (m.take j)) (fun M => m.length - M.2.2.toNat)
   ⟨0, rfl, by omega, by simp, fun k r h => ?_, by simp, fun k r h => ?_⟩ (by dsimp only; omega) ?_
  ·have := (List.mem_replicate.1 (mg h)).2
   simp [Cr, this]
  ·have := (List.mem_replicate.1 (mg h)).2
   simp [Cq, this]
  rintro ⟨Y, G, _⟩ ⟨j, rfl, hj, hl1, ag, hl2, ac⟩
  dsimp only at hj hl1 ag hl2 ac ⊢
  unfold Jn.B4
  refine As (fun af => ?_) fun hge => .pure ?_
  ·dsimp only at af
   obtain ⟨x, hx⟩ : ∃ ζ, m[j]? = some ζ := ⟨_, gq (by omega)⟩
   have hxm := hm x (mg hx)
   have htk : ∀ y, y ∈ m.take j → PathOk n p y := fun y hy => hm y (List.mem_of_mem_take hy)
   have e : m.take (j + 1) = m.take j ++ [x] := by rw [List.take_add_one, hx]; rfl
   have es : ∀ k, Cr k (m.take (j + 1)) = Cr k (m.take j) + C9 x.Rate k x.Hops := fun k => by rw [e, Gd]; simp only [Cr]; omega
   have ep : ∀ k, Cq k (m.take (j + 1)) = Cq k (m.take j) + Em k x := fun k => by rw [e, Fx]; simp only [Cq]; omega
   have ad := fun k => Yw k htk
   have htl : (m.take j).length ≤ 14 := by rw [List.length_take]; omega
   obtain ⟨i, o, p0, po, y0, y1, nd, e1, e2, e3, e4, e5, e6, e7, e8, w, e9, e10, e11, e12, e13⟩ := hxm
   have hil := (gs e3).1
   have hol := (gs e4).1
   have hne : i ≠ o := by rintro rfl; rw [e5] at e7; simp at e7; omega
   have hpi : G[i]? = some (G[i]'(by omega)) := gq _
   have hpo : G[o]? = some (G[o]'(by omega)) := gq _
   generalize G[i]'(by omega) = zi at hpi
   generalize G[o]'(by omega) = zo at hpo
   have hzi := ac i zi hpi; have hzo := ac o zo hpo
   have bi := ad i; have bo := ad o
   refine .bind' (.eq (A0 hx) ?_)
   dsimp only
   rw [e1, e2]
   refine .bind' (.eq (A0 hpi) ?_)
   dsimp only
   rw [Bc (x := zi + x.Rate) (by omega)]
   refine .bind' (.eq (A0 (show (G.set i (zi + x.Rate))[o]? = some zo by rw [List.getElem?_set_ne hne]; exact hpo)) ?_)
   have fin : ∀ (k : Nat) (r : Int), ((G.set i (wr (zi + x.Rate))).set o (wr (zo - x.Rate)))[k]? = some r → r = Cq k (m.take (j + 1)) := by
    intro k r O
    rw [Bc (x := zi + x.Rate) (by omega), Bc (x := zo - x.Rate) (by omega), D9, D9] at O
    rw [ep]
    unfold Em
    rw [e1, e2]
    by_cases hko : o = k
    ·subst hko
     rw [if_pos ⟨rfl, by simp; omega⟩] at O; simp at O
     rw [if_neg (by omega), if_pos rfl]; omega
    ·rw [if_neg (fun h => hko h.1)] at O
     by_cases hki : i = k
     ·subst hki
      rw [if_pos ⟨rfl, by omega⟩] at O; simp at O
      rw [if_pos rfl, if_neg (by omega)]; omega
     ·rw [if_neg (fun h => hki h.1)] at O
      have := ac k r O
      rw [if_neg (by omega), if_neg (by omega)]; omega
   have fl : ((G.set i (wr (zi + x.Rate))).set o (wr (zo - x.Rate))).length = n.Ports.length := by simp [hl2]
   refine .bind (Q := fun d : (Plan × Int) ⊕ (Li × Li) => ∃ W, d = .inr (W, (G.set i (wr (zi + x.Rate))).set o (wr (zo - x.Rate))) ∧ W.length = n.Segments.length ∧ ∀ (k : Nat) (r : Int), W[k]? = some r → r = Cr k (m.take (j + 1))) ?_ ?_
   ·refine .loop (S := Li × Int) (fun M => ∃ t : Nat, M.2 = (t : Int) ∧ t ≤ x.Hops.length ∧ M.1.length = n.Segments.length ∧ ∀ (k : Nat) (r : Int), M.1[k]? = some r → r = Cr k (m.take j) + C9 x.Rate k (x.Hops.take t)) (fun M => x.Hops.length - M.2.toNat) ⟨0, rfl, by omega, hl1, fun k r h => by have := ag k r h; simp [C9, this]⟩ (by dsimp only; omega) ?_
    rintro ⟨W, _⟩ ⟨t, rfl, ht, hsl, X⟩
    dsimp only at ht hsl X ⊢
    unfold Jn.B6
    refine As (fun af => ?_) fun hge => .pure ?_
    ·dsimp only at af
     obtain ⟨h, hh⟩ : ∃ ζ, x.Hops[t]? = some ζ := ⟨_, gq (by omega)⟩
     obtain ⟨k, s, r0, g1, g2, g3, g4⟩ := w.hop t h hh
     have hkl := (gs g2).1
     obtain ⟨z, O⟩ : ∃ ζ, W[k]? = some ζ := ⟨_, gq (by omega)⟩
     have hz := X k z O
     have a1 := P5 hr g3 htk
     have a2 := Us (x := x.Rate) g3 (by omega) (l := x.Hops.take t) fun y hy => by
      obtain ⟨v, hv⟩ := List.getElem?_of_mem (List.mem_of_mem_take hy)
      exact ⟨_, _, w.hop v y hv⟩
     have hb := G7 (rate := x.Rate) (by omega) k (x.Hops.take t)
     rw [List.length_take] at hb
     have bk := ad k
     refine .bind' (.eq (A0 hh) ?_)
     have j8 : ∀ sg, sg = Im x.Rate h → Ok (Jn.J8 (W, (t : Int)) (t, h) sg false) (Sum.elim (fun M => (∃ t : Nat, M.2 = (t : Int) ∧ t ≤ x.Hops.length ∧ M.1.length = n.Segments.length ∧ ∀ (k : Nat) (r : Int), M.1[k]? = some r → r = Cr k (m.take j) + C9 x.Rate k (x.Hops.take t)) ∧ x.Hops.length - M.2.toNat < x.Hops.length - (t : Int).toNat)
       fun d => ∃ W, d = .inr (W, (G.set i (wr (zi + x.Rate))).set o (wr (zo - x.Rate))) ∧ W.length = n.Segments.length ∧ ∀ (k : Nat) (r : Int), W[k]? = some r → r = Cr k (m.take (j + 1))) := by
      rintro sg rfl
      unfold Jn.J8
      refine Ax (fun h => by cases h) fun _ => ?_
      dsimp only
      rw [g1]
      refine .bind' (.eq (A0 O) (.pure ⟨⟨t + 1, by dsimp only; rw [Bc (by omega)]; omega, by omega, by simp [hsl], fun k' r Z => ?_⟩, by dsimp only; rw [Bc (by omega)]; omega⟩))
      dsimp only at Z
      have ae : -1000 ≤ Im x.Rate h ∧ Im x.Rate h ≤ 1000 := by unfold Im; split <;> omega
      rw [Bc (by omega), D9] at Z
      rw [Kr hh]
      by_cases hkk : k = k'
      ·subst hkk
       rw [if_pos ⟨rfl, by omega⟩] at Z; simp at Z
       rw [if_pos g1]; omega
      ·rw [if_neg (fun h => hkk h.1)] at Z
       rw [if_neg (by omega)]
       have := X k' r Z; omega
     have j7 : ∀ sg, sg = Im x.Rate h → Ok (Jn.J7 (W, (t : Int)) (t, h) sg) (Sum.elim (fun M => (∃ t : Nat, M.2 = (t : Int) ∧ t ≤ x.Hops.length ∧ M.1.length = n.Segments.length ∧ ∀ (k : Nat) (r : Int), M.1[k]? = some r → r = Cr k (m.take j) + C9 x.Rate k (x.Hops.take t)) ∧ x.Hops.length - M.2.toNat < x.Hops.length - (t : Int).toNat)
       fun d => ∃ W, d = .inr (W, (G.set i (wr (zi + x.Rate))).set o (wr (zo - x.Rate))) ∧ W.length = n.Segments.length ∧ ∀ (k : Nat) (r : Int), W[k]? = some r → r = Cr k (m.take (j + 1))) := by
      intro sg ae
      have hsg' := ae
      unfold Im at ae
      unfold Jn.J7
      dsimp only
      rw [g1]
      rcases g4 with ⟨b, q, _⟩ | ⟨b, q, _⟩ <;> rw [b] at ae <;> simp at ae
      ·refine As (fun _ => .bind' (.eq (A0 O) (As (fun hneg => ?_) fun _ => As (fun h => by omega) fun _ => j8 sg hsg'))) fun h => absurd (by omega) h
       dsimp only at hneg; omega
      ·refine As (fun h => by omega) fun _ => As (fun _ => .bind' (.eq (A0 O) ?_)) fun h => absurd (by omega) h
       rw [show decide (((k, z) : Nat × Int).2 > 0) = false from decide_eq_false (by dsimp only; omega)]
       exact j8 sg hsg'
     dsimp only
     refine Ax (fun hb' => j7 _ ?_) fun hb' => j7 _ ?_
     ·rw [Bc (by omega)]; unfold Im; rw [if_pos hb']; omega
     ·unfold Im; rw [if_neg (by rw [hb']; simp)]
    ·dsimp only at hge
     have : t = x.Hops.length := by omega
     subst this
     rw [List.take_length] at X
     exact ⟨W, rfl, hsl, fun k r O => by rw [es]; exact X k r O⟩
   ·rintro _ ⟨W, rfl, hrs, X⟩
    simp only [Sum.elim_inr]
    unfold Jn.J5
    exact .pure ⟨⟨j + 1, by dsimp only; rw [Bc (by omega)]; omega, by omega, hrs, X, fl, fin⟩, by dsimp only; rw [Bc (by omega)]; omega⟩
  ·dsimp only at hge
   have : j = m.length := by omega
   subst this
   rw [List.take_length] at ag ac
   have d1 : Y = q.Rates := by
    refine List.ext_getElem? fun k => ?_
    by_cases O : k < n.Segments.length
    ·have a1 : Y[k]? = some (Y[k]'(by omega)) := gq _
     have a2 : q.Rates[k]? = some (q.Rates[k]'(by omega)) := gq _
     rw [a1, a2, ag k _ a1, q4 k _ a2]
    ·rw [List.getElem?_eq_none (by omega), List.getElem?_eq_none (by omega)]
   have d2 : G = q.Ports := by
    refine List.ext_getElem? fun k => ?_
    by_cases O : k < n.Ports.length
    ·have a1 : G[k]? = some (G[k]'(by omega)) := gq _
     have a2 : q.Ports[k]? = some (q.Ports[k]'(by omega)) := gq _
     rw [a1, a2, ac k _ a1, q5 k _ a2]
    ·rw [List.getElem?_eq_none (by omega), List.getElem?_eq_none (by omega)]
   subst d1; subst d2; rfl
 rintro _ rfl
 simp only [Sum.elim_inr]
 unfold Jn.J3
 refine Cj (fun h => absurd (by omega) h) fun _ => ?_
 dsimp only
 rw [show (⟨q.Rates, q.Ports, q.Pumps⟩ : Plan) = q from rfl, hc]
 exact .bind' (.pure (Cj (fun h => absurd rfl h) fun _ => .pure rfl))
end Go.Proofs.YtmaamhgjeampmaaGreat
namespace Go.Aw
theorem Qo {B : Type} {n : Nat} {d : B} {f : Int → Option (Int ⊕ (B ⊕ Unit))} (P : Nat → Prop) (Z : n ≤ 1000000)
  (hf : ∀ i : Nat, i < n → Ok (f (i : Int)) fun o => (P i ∧ o = .inr (.inl d)) ∨ (¬ P i ∧ o = .inl (wr ((i : Int) + 1)))) (he : f (n : Int) = some (.inr (.inr ()))) :
  Ok (Bx f C0 0) fun o => ((∃ j, j < n ∧ P j) ∧ o = .inl d) ∨ ((∀ j, j < n → ¬ P j) ∧ o = .inr ()) := by
 have W : ∀ (i y : Nat), (List.range n)[i]? = some y → y = i := fun i y h => by
  obtain ⟨M, G⟩ := gs h
  simpa using G.symm
 refine (X1 (l := List.range n) P (by simp) (by simpa using Z) (fun i y Y hy => by obtain rfl := W i y hy; exact hf y Y) he).mono ?_
 rintro o (⟨⟨j, y, M, G, X⟩, rfl⟩ | ⟨h, rfl⟩)
 ·exact .inl ⟨⟨j, M, W j y G ▸ X⟩, rfl⟩
 ·exact .inr ⟨fun j O hp => h ⟨j, j, O, by rw [List.getElem?_range O], hp⟩, rfl⟩
theorem Ok.tst {B : Type} {c : Bool} {d : B} {P : Prop} {i : Int} (h : c = true ↔ P) : Ok (if c = true then some (.inr (.inl d)) else some (.inl (wr (i + 1))) : Option (Int ⊕ (B ⊕ Unit))) fun o => (P ∧ o = .inr (.inl d)) ∨ (¬ P ∧ o = .inl (wr (i + 1))) := by
 by_cases G : c = true
 ·rw [if_pos G]; exact .pure (.inl ⟨h.1 G, rfl⟩)
 ·rw [if_neg G]; exact .pure (.inr ⟨fun M => G (h.2 M), rfl⟩)
end Go.Aw
namespace Go.Proofs.YtmaamhgjeampmaaGreat
set_option linter.unusedVariables false
set_option linter.unusedSimpArgs false
open Go.Aw
theorem Mh {S B : Type} {f : S → Option (S ⊕ B)} (F : Nat → S) (N : Nat) {b : B} {s0 : S} (M : F 0 = s0) (W : N < 1000000) (O : ∀ k : Nat, k < N → Ok (f (F k)) fun o => o = .inl (F (k + 1))) (he : Ok (f (F N)) fun o => o = .inr b) : Bx f C0 s0 = some b := by
 refine Hj ?_
 refine .loopE (m := N) (fun m s => ∃ k, k + m = N ∧ s = F k) ⟨0, by omega, M.symm⟩ (by omega) ?_
 rintro m _ ⟨k, X, rfl⟩
 by_cases h : k < N
 ·exact (O k h).mono fun o G => by rw [G]; exact ⟨m - 1, by omega, k + 1, by omega, rfl⟩
 ·rw [show k = N by omega]
  exact he.mono fun o G => by rw [G]; rfl
theorem at_ {α : Type} {l : List α} {k : Nat} (h : k < l.length) : ∃ x, l[k]? = some x := ⟨_, gq h⟩
theorem sN {α : Type} {f : α → α} {l : List α} {k : Nat} {x : α} (h : l[k]? = some x) : ((l.take k).map f ++ l.drop k).set k (f x) = (l.take (k + 1)).map f ++ l.drop (k + 1) := by
 have O := (gs h).1
 have G : l.drop k = x :: l.drop (k + 1) := by rw [← (gs h).2]; exact (List.drop_eq_getElem_cons O)
 have M : l.take (k + 1) = l.take k ++ [x] := by rw [List.take_add_one, h]; rfl
 rw [G, M, List.set_append, if_neg (by simp; omega), show k - ((l.take k).map f).length = 0 by simp; omega, List.map_append, List.append_assoc]
 rfl
theorem uE {α : Type} {f : α → α} {l : List α} {k : Nat} {x : α} (h : l[k]? = some x) : ((l.take k).map f ++ l.drop k)[k]? = some x := by
 have G := (gs h).1
 rw [List.getElem?_append_right (by simp; omega)]
 simp only [List.length_map, List.length_take, List.getElem?_drop]
 rw [show k + (k - min k l.length) = k by omega]; exact h
theorem sO {α : Type} {f : α → α} {l : List α} {k : Nat} (G : k ≤ l.length) : ((l.take k).map f ++ l.drop k).length = l.length := by simp; omega
theorem kI {st : List Step} {vs : List Valve} {rest t : Int} (hv : ∀ v, v ∈ vs → VQ v) (hl : vs.length ≤ 1000) (Y : st.length ≤ 1000000) (Z : 0 ≤ t ∧ t ≤ 100) :
  Re ⟨st, vs, rest⟩ t = some ⟨st ++ E6 t, vs.map (vq t), rest⟩ := by
 refine Hj ?_
 unfold Re
 refine .bind (Q := fun r : batchlineref27_maker => r = ⟨st ++ E6 t, vs.map (vq t), rest⟩) ?_ (by rintro _ rfl; exact .pure rfl)
 refine .loop (S := List Step × List Valve × Int) (fun s => s = (st, vs, t) ∨ s = (st ++ E6 t, vs.map (vq t), 0)) (fun s => if s.2.2 ≤ 0 then 0 else 1) (.inl rfl) (by split <;> omega) ?_
 have O : (st, vs, t) = (st, vs, t) → ¬ 0 < t → (⟨st, vs, rest⟩ : batchlineref27_maker) = ⟨st ++ E6 t, vs.map (vq t), rest⟩ := fun _ h => by
  have : t = 0 := by omega
  subst this
  rw [Jx hv, show E6 0 = [] from if_neg (by omega), List.append_nil]
 rintro _ (rfl | rfl)
 ·unfold Re.B1
  refine As (fun G => ?_) fun G => .pure (O rfl G)
  dsimp only at G
  dsimp only
  rw [show min t 100 = t by omega]
  have W : Bx (Re.B3 (st, vs, t)) C0 (vs, 0) = some (vs.map (vq t)) := by
   refine Mh (fun k => ((vs.take k).map (vq t) ++ vs.drop k, (k : Int))) vs.length (by simp) (by omega) (fun k X => ?_) ?_ <;> (unfold Re.B3; dsimp only; rw [sO (by omega)])
   ·refine As (fun _ => ?_) fun h => absurd h (by omega)
    have M : vs[k]? = some (vs[k]'X) := gq _
    generalize vs[k]'X = v at M
    refine .bind' (.eq (A0 (uE M)) ?_)
    rw [show min t 100 = t by omega]
    dsimp only
    rw [pG (hv v (mg M)) (by omega)]
    refine .bind' (.pure (.pure ?_))
    rw [sN M, Bc (by omega)]; rfl
   ·refine As (fun h => absurd h (by omega)) fun _ => .pure ?_
    rw [List.take_length, List.drop_length, List.append_nil]
  refine .bind' (.app (by simp; omega) (.bind (Q := fun d : List Valve => d = vs.map (vq t)) (.eq W rfl) ?_))
  ·rintro _ rfl
   unfold Re.J2
   refine .pure ⟨.inr ?_, ?_⟩
   ·dsimp only
    rw [show min t 100 = t by omega, Bc (by omega), show E6 t = [T5 t] from if_pos G]
    simp [T5]
   ·dsimp only
    rw [show min t 100 = t by omega, Bc (by omega), if_pos (by omega), if_neg (by omega)]; omega
 ·unfold Re.B1
  exact As (fun G => absurd G (by dsimp only; omega)) fun _ => .pure rfl
theorem Ux {u : Path} {sign ramp rest b : Int} : El u sign ramp rest (b - min b ramp) = El u sign ramp rest (b - ramp) := by
 by_cases h : b ≤ ramp
 ·rw [Fj (by omega), Fj (by omega)]
 ·rw [show min b ramp = ramp by omega]
theorem lC {st : List Step} {vs : List Valve} {rest : Int} (hv : ∀ v, v ∈ vs → VQ v) (hl : vs.length ≤ 1000) (hs : st.length ≤ 500000) (Y : 0 ≤ rest ∧ rest ≤ 100) {u : Path} (hu : u.Hops.length ≤ 1000) {sign ramp b f : Int} (G : sign = 1 ∨ sign = -1) (hr : 1 ≤ ramp ∧ ramp ≤ 1000)
  (hb : 0 ≤ b ∧ b ≤ 1000) (hf : 0 ≤ f ∧ f ≤ 1000) (hg : 0 ≤ f + sign * b ∧ f + sign * b ≤ 1000) :
  Rh ⟨st, vs, rest⟩ u f (f + sign * b) ramp = some ⟨st ++ El u sign ramp rest b, vs.map (vq (K0 (El u sign ramp rest b))), rest⟩ := by
 refine Hj ?_
 unfold Rh
 rw [aY hu]
 refine .bind' (.pure (.bind (Q := fun r : batchlineref27_maker => r = ⟨st ++ El u sign ramp rest b, vs.map (vq (K0 (El u sign ramp rest b))), rest⟩) ?_ (by rintro _ rfl; exact .pure rfl)))
 refine .loop (S := List Step × List Valve × Int × Int) (fun s => ∃ c : Int, 0 ≤ c ∧ c ≤ b ∧ s.2.2.1 = rest ∧ s.2.2.2 = f + sign * b - sign * c ∧ s.1 ++ El u sign ramp rest c = st ++ El u sign ramp rest b ∧ s.2.1.map (vq (K0 (El u sign ramp rest c))) = vs.map (vq (K0 (El u sign ramp rest b))) ∧ (∀ v, v ∈ s.2.1 → VQ v) ∧ s.2.1.length ≤ 1000 ∧ s.1.length + 2 * c.toNat ≤ st.length + 2 * b.toNat)
  (fun s => (sign * (f + sign * b - s.2.2.2)).toNat) ⟨b, hb.1, Int.le_refl _, rfl, by dsimp only; omega, rfl, rfl, hv, hl, Nat.le_refl _⟩ (by dsimp only; rcases G with rfl | rfl <;> omega) ?_
 rintro ⟨l, ws, rr, g⟩ ⟨c, h0, h1, e1, e0, O, W, X, h5, h6⟩
 dsimp only at e0 e1 O W X h5 h6
 have Z := e1.symm
 subst Z e0
 unfold Rh.B1
 dsimp only
 refine Ax (fun M => ?_) fun M => .pure ?_
 ·have hc : 0 < c := by
   have : f + sign * b - sign * c ≠ f + sign * b := by simpa using M
   rcases G with rfl | rfl <;> omega
  have ew : wr (f + sign * b - (f + sign * b - sign * c)) = sign * c := by
   rw [show f + sign * b - (f + sign * b - sign * c) = sign * c by omega]; exact Bc (by rcases G with rfl | rfl <;> omega)
  have ev : max (wr (0 - ramp)) (min ramp (sign * c)) = sign * min c ramp := by
   rw [Bc (by omega)]; rcases G with rfl | rfl <;> omega
  rw [ew, ev, aY (x := ⟨u.In, u.Out, u.Hops, 0⟩) hu]
  refine .bind' (.pure (.bind' (.app (by simp; omega) ?_)))
  rw [kI X h5 (by simp; omega) Y]
  refine .bind' (.pure (.pure ?_))
  dsimp only [Sum.elim_inl]
  have e2 : wr (f + sign * b - sign * c + sign * min c ramp) = f + sign * b - sign * (c - min c ramp) := by
   rw [Bc (by rcases G with rfl | rfl <;> omega)]; rcases G with rfl | rfl <;> omega
  rw [e2]
  rw [Ks hc (by omega)] at O W
  have hw := Ic rest
  refine ⟨⟨c - min c ramp, by omega, by omega, rfl, rfl, ?_, ?_, Np X Y.1, by simpa using h5, ?_⟩, ?_⟩
  ·rw [Ux, ← O, List.append_assoc, List.append_assoc]; rfl
  ·rw [Ux, ← W]
   have ht2 := Ho (El u sign ramp rest (c - ramp))
   rw [kJ X Y.1 ht2.1]
   congr 2
   simp only [K0, Hb, eM Y]
   rw [show tk (cJ u (sign * min c ramp)) = 0 from rfl]; omega
  ·simp only [List.length_append, List.length_singleton]; omega
  ·rcases G with rfl | rfl <;> omega
 ·have hc : c = 0 := by
   have : f + sign * b - sign * c = f + sign * b := by simpa using M
   rcases G with rfl | rfl <;> omega
  subst hc
  rw [Fj (by omega)] at O W
  rw [← O, ← W]
  have : K0 [] = 0 := rfl
  rw [this, Jx X, List.append_nil]
  rfl
theorem kP {l : List Path} (h : ∀ x, x ∈ l → x.Hops.length ≤ 1000) (hl : l.length ≤ 1000) {u : Path} : R8 l u = some (rt l u) := by
 refine Hj ?_
 unfold R8
 refine .bind (dN h hl) ?_
 rintro _ (⟨rfl, M⟩ | ⟨k, y, rfl, G⟩)
 ·exact As (fun h => by omega) fun _ => .pure (Mj M).symm
 ·refine As (fun _ => .bind' (.eq (A0 G.1) (.pure ?_))) fun h => by omega
  rw [Ss G]
theorem aR {b : List Path} {y : Path} : ∀ {a : List Path}, Ja a → (∀ u, u ∈ a → 0 ≤ mr b u) → ∀ x, x ∈ a → Alike x y → rt (Hk b a) y = mr b x
 | [], _, _, x, hx, _ => by simp at hx
 | u :: a, hp, h0, x, hx, hxy => by
  have hu := h0 u (by simp)
  simp only [Hk]
  by_cases G : Alike u y
  ·have O : x = u := by
    rcases List.mem_cons.1 hx with h | h
    ·exact h
    ·exact absurd (G.trans hxy.symm) (hp.1 x h)
   subst O
   split
   ·simp only [rt]; rw [if_pos (show Alike (rated x (mr b x)) y from G)]; rfl
   ·rw [Mj fun z hz W => ?_]
    ·omega
    ·obtain ⟨w, Z, _, rfl⟩ := Mm hz
     exact hp.1 w Z (G.trans (Alike.symm (show Alike w y from W)))
  ·have M : x ∈ a := by
    rcases List.mem_cons.1 hx with rfl | h
    ·exact absurd hxy G
    ·exact h
   have X := aR hp.2 (fun v Y => h0 v (by simp [Y])) x M hxy
   split
   ·simp only [rt]; rw [if_neg (show ¬ Alike (rated u (mr b u)) y from G)]; exact X
   ·exact X
theorem lY {a b : List Path} (X : Ja a) (hb : Ja b) (hr : ∀ y, y ∈ b → 1 ≤ y.Rate) (O : ∀ y, y ∈ a → 1 ≤ y.Rate) {y : Path} (hy : y ∈ b) : rt (Hk b a) y = mr a y := by
 by_cases h : ∃ x, x ∈ a ∧ Alike x y
 ·obtain ⟨x, M, G⟩ := h
  rw [aR X (fun u hu => (Hz hr (O u hu)).1) x M G]
  obtain ⟨k, hk⟩ := List.getElem?_of_mem hy
  obtain ⟨j, Z⟩ := List.getElem?_of_mem M
  rw [Yn hb hk G.symm, Yn X Z G, Int.min_comm]
 ·have Y : ∀ x, x ∈ a → ¬ Alike x y := fun x M G => h ⟨x, M, G⟩
  rw [Qh Y, Mj fun z hz W => ?_]
  obtain ⟨w, hw, _, rfl⟩ := Mm hz
  exact Y w hw W
def Fy (b : Bool) : List Nat → List Valve → List Valve
 | [], V => V
 | i :: is, V => Fy b is (match V[i]? with | some v => V.set i (Db b v) | none => V)
theorem Jy (b : Bool) : ∀ (is js : List Nat) (V : List Valve), Fy b (is ++ js) V = Fy b js (Fy b is V)
 | [], _, _ => rfl
 | i :: is, js, V => Jy b is js _
theorem H9 (b : Bool) : ∀ (is : List Nat) (V : List Valve), (Fy b is V).length = V.length
 | [], _ => rfl
 | i :: is, V => by simp only [Fy]; rw [H9 b is]; split <;> simp
theorem eI (b c : Bool) (v : Valve) : Db b (Db c v) = Db b v := rfl
theorem Kg (b : Bool) : ∀ {is : List Nat} {V : List Valve} {j : Nat}, (Fy b is V)[j]? = if j ∈ is then (V[j]?).map (Db b) else V[j]?
 | [], V, j => by simp [Fy]
 | i :: is, V, j => by
  simp only [Fy, List.mem_cons]
  rw [Kg b (is := is)]
  cases hv : V[i]? with
  | none =>
   dsimp only
   by_cases G : j = i
   ·subst G; simp [hv]
   ·by_cases h : j ∈ is <;> simp [G, h]
  | some v =>
   dsimp only
   by_cases G : j = i
   ·subst G
    have := (gs hv).1
    rw [List.getElem?_set_self this, hv]
    by_cases h : j ∈ is <;> simp [h, eI]
   ·rw [List.getElem?_set_ne (Ne.symm G)]
    by_cases h : j ∈ is <;> simp [G, h]
theorem Y1 {b : Bool} {is : List Nat} {V : List Valve} (h : ∀ v, v ∈ V → VQ v) : ∀ v, v ∈ Fy b is V → VQ v := fun v hv => by
 obtain ⟨j, G⟩ := List.getElem?_of_mem hv
 rw [Kg] at G
 split at G
 ·obtain ⟨u, M, rfl⟩ := Option.map_eq_some_iff.1 G
  have := h u (mg M)
  exact ⟨this.travel, this.opn⟩
 ·exact h v (mg G)
theorem Y0 {b : Bool} {V : List Valve} {i : Nat} {v : Valve} (h : V[i]? = some v) : Fy b [i] V = V.set i (Db b v) := by simp only [Fy, h]
theorem F3 {α : Type} {l : List α} {k : Nat} {x : α} (h : l[k]? = some x) : l.take (k + 1) = l.take k ++ [x] := by rw [List.take_add_one, h]; rfl
theorem lT {cs : List Nat} {st : List Step} {V : List Valve} (Y : st.length + cs.length ≤ 900000) (hc : ∀ i, i ∈ cs → i < V.length) :
  Bx (R0.B6 (cs.map fun i => ((i : Nat) : Int))) C0 (st, V, 0) = some (st ++ cs.map Hy, Fy false cs V) := by
 refine Mh (fun k => (st ++ (cs.take k).map Hy, Fy false (cs.take k) V, (k : Int))) cs.length (by simp [Fy]) (by omega) (fun k M => ?_) ?_ <;> (unfold R0.B6; dsimp only; rw [List.length_map])
 ·have G : cs[k]? = some (cs[k]'M) := gq _
  generalize cs[k]'M = i at G
  have W := hc i (mg G)
  have X : (cs.map fun i => ((i : Nat) : Int))[k]? = some (i : Int) := by rw [List.getElem?_map, G]; rfl
  obtain ⟨v, O⟩ : ∃ v, (Fy false (cs.take k) V)[i]? = some v := ⟨_, gq (by rw [H9]; exact W)⟩
  refine As (fun _ => .bind' (.eq (A0 X) (.bind' (.app (by simp; omega) (.bind' (.eq (A0 O) (.pure ?_))))))) fun h => absurd h (by omega)
  rw [Bc (by omega), F3 G, Jy, Y0 O, List.map_append, List.append_assoc]
  rfl
 ·refine As (fun h => absurd h (by omega)) fun _ => .pure ?_
  rw [List.take_length]
theorem mA {cs : List Nat} {st : List Step} {V : List Valve} (Y : st.length + cs.length ≤ 900000) (hc : ∀ i, i ∈ cs → i < V.length) :
  Bx (R0.B5 (cs.map fun i => ((i : Nat) : Int))) C0 (st, V, 0) = some (st ++ cs.map K1, Fy true cs V) := by
 refine Mh (fun k => (st ++ (cs.take k).map K1, Fy true (cs.take k) V, (k : Int))) cs.length (by simp [Fy]) (by omega) (fun k M => ?_) ?_ <;> (unfold R0.B5; dsimp only; rw [List.length_map])
 ·have G : cs[k]? = some (cs[k]'M) := gq _
  generalize cs[k]'M = i at G
  have W := hc i (mg G)
  have X : (cs.map fun i => ((i : Nat) : Int))[k]? = some (i : Int) := by rw [List.getElem?_map, G]; rfl
  obtain ⟨v, O⟩ : ∃ v, (Fy true (cs.take k) V)[i]? = some v := ⟨_, gq (by rw [H9]; exact W)⟩
  refine As (fun _ => .bind' (.eq (A0 X) (.bind' (.app (by simp; omega) (.bind' (.eq (A0 O) (.pure ?_))))))) fun h => absurd h (by omega)
  rw [Bc (by omega), F3 G, Jy, Y0 O, List.map_append, List.append_assoc]
  rfl
 ·refine As (fun h => absurd h (by omega)) fun _ => .pure ?_
  rw [List.take_length]
theorem pV {V : List Valve} {nd : List Bool} {i : Nat} : Cmd V nd V.length i ↔ i ∈ pick V.length (Co V nd) ++ pick V.length (toOpen V nd) := by
 rw [List.mem_append, Fu, Fu]; unfold Cmd
 constructor
 ·rintro ⟨h, G | G⟩
  ·exact .inl ⟨h, G⟩
  ·exact .inr ⟨h, G⟩
 ·rintro (⟨h, G⟩ | ⟨h, G⟩)
  ·exact ⟨h, .inl G⟩
  ·exact ⟨h, .inr G⟩
theorem rX {st : List Step} {V : List Valve} {rest : Int} {nd : List Bool} (hv : ∀ v, v ∈ V → VQ v) (hl : V.length ≤ 1000) (hs : st.length ≤ 500000) :
  Ok (R0 ⟨st, V, rest⟩ ((pick V.length (Co V nd)).map fun i => ((i : Nat) : Int)) ((pick V.length (toOpen V nd)).map fun i => ((i : Nat) : Int))) fun r =>
   (r.1 = false ∧ ∃ i, Cmd V nd V.length i ∧ E4 V nd i < 0) ∨
   ∃ most W, r = (true, ⟨st ++ ((pick V.length (Co V nd)).map Hy ++ (pick V.length (toOpen V nd)).map K1) ++ E6 most, W, rest⟩) ∧ IsMax (Cmd V nd V.length) (E4 V nd) most ∧ (∀ i, Cmd V nd V.length i → 0 ≤ E4 V nd i) ∧ (∀ v, v ∈ W → VQ v) ∧ W.length = V.length := by
 have hcl := Dx V.length (Co V nd); have hol := Dx V.length (toOpen V nd)
 have hcm : ∀ i, i ∈ pick V.length (Co V nd) → i < V.length := fun i X => (Fu.1 X).1
 have hom : ∀ i, i ∈ pick V.length (toOpen V nd) → i < V.length := fun i X => (Fu.1 X).1
 have G := fun i => pV (V := V) (nd := nd) (i := i)
 have hlq : ∀ i, i ∈ pick V.length (Co V nd) ++ pick V.length (toOpen V nd) → ∃ v, (Fy true (pick V.length (toOpen V nd)) (Fy false (pick V.length (Co V nd)) V))[i]? = some v ∧ Oc v = E4 V nd i ∧ -1 ≤ E4 V nd i ∧ E4 V nd i ≤ 60 := by
  intro i X
  have hil : i < V.length := ((G i).2 X).1
  have O : V[i]? = some V[i] := gq hil
  generalize V[i] = v at O
  have Z := hv v (mg O)
  have hq : ∀ w, VQ (Db w v) := fun w => ⟨Z.travel, Z.opn⟩
  rcases List.mem_append.1 X with h | h
  ·have M := (Fu.1 h).2
   have h2 : i ∉ pick V.length (toOpen V nd) := fun h' => kL i ⟨M, (Fu.1 h').2⟩
   have hn : nd[i]? = some false := by
    unfold Co at M; rw [O] at M
    split at M
    ·rename_i h3 h4; exact h4
    ·cases M
   refine ⟨Db false v, by rw [Kg, if_neg h2, Kg, if_pos h, O]; rfl, ?_⟩
   have e : E4 V nd i = lq false v := by unfold E4; rw [O, hn]
   rw [e, dG (hq false)]
   exact ⟨rfl, aT Z⟩
  ·have M := (Fu.1 h).2
   have h2 : i ∉ pick V.length (Co V nd) := fun h' => kL i ⟨(Fu.1 h').2, M⟩
   have hn : nd[i]? = some true := by
    unfold toOpen at M; rw [O] at M
    split at M
    ·rename_i h3 h4; exact h4
    ·cases M
   refine ⟨Db true v, by rw [Kg, if_pos h, Kg, if_neg h2, O]; rfl, ?_⟩
   have e : E4 V nd i = lq true v := by unfold E4; rw [O, hn]
   rw [e, dG (hq true)]
   exact ⟨rfl, aT Z⟩
 have hWq : ∀ v, v ∈ Fy true (pick V.length (toOpen V nd)) (Fy false (pick V.length (Co V nd)) V) → VQ v := Y1 (Y1 hv)
 have hWl : (Fy true (pick V.length (toOpen V nd)) (Fy false (pick V.length (Co V nd)) V)).length = V.length := by rw [H9, H9]
 unfold R0
 dsimp only
 rw [lT (by omega) hcm]
 refine .bind' (.pure ?_)
 unfold R0.J1
 dsimp only
 rw [mA (by simp; omega) (fun i X => by rw [H9]; exact hom i X)]
 refine .bind' (.pure ?_)
 unfold R0.J2
 refine .bind' (.app (by simp; omega) (.bind' (.app (by simp; omega) ?_)))
 rw [List.nil_append, ← List.map_append]
 generalize hW : Fy true (pick V.length (toOpen V nd)) (Fy false (pick V.length (Co V nd)) V) = W at *
 have hal : (pick V.length (Co V nd) ++ pick V.length (toOpen V nd)).length ≤ 2000 := by simp; omega
 rw [show st ++ (pick V.length (Co V nd)).map Hy ++ (pick V.length (toOpen V nd)).map K1 = st ++ ((pick V.length (Co V nd)).map Hy ++ (pick V.length (toOpen V nd)).map K1) from List.append_assoc ..]
 generalize hal' : pick V.length (Co V nd) ++ pick V.length (toOpen V nd) = Y at *
 refine .bind (Q := fun o : (Bool × batchlineref27_maker) ⊕ Int => (∃ m, o = .inl (false, m) ∧ ∃ i, i ∈ Y ∧ E4 V nd i < 0) ∨ ∃ most, o = .inr most ∧ IsMax (fun i => i ∈ Y) (E4 V nd) most ∧ most ≤ 60 ∧ ∀ i, i ∈ Y → 0 ≤ E4 V nd i) ?_ ?_
 ·refine .loop (S := Int × Int) (fun s => ∃ k : Nat, s.2 = (k : Int) ∧ k ≤ Y.length ∧ IsMax (fun i => i ∈ Y.take k) (E4 V nd) s.1 ∧ s.1 ≤ 60 ∧ ∀ i, i ∈ Y.take k → 0 ≤ E4 V nd i) (fun s => Y.length - s.2.toNat) ⟨0, rfl, by omega, ⟨Int.le_refl _, by simp, .inl rfl⟩, by dsimp only; omega, by simp⟩ (by dsimp only; omega) ?_
  rintro ⟨m, _⟩ ⟨k, rfl, hk, i1, i2, i3⟩
  dsimp only at i1 i2
  unfold R0.B4
  dsimp only
  rw [List.length_map]
  refine As (fun hlt => ?_) fun hge => .pure (.inr ⟨m, rfl, ?_, i2, ?_⟩)
  ·obtain ⟨i, O⟩ : ∃ ζ, Y[k]? = some ζ := ⟨_, gq (by omega)⟩
   have hm := mg O
   obtain ⟨v, M, h2, h3⟩ := hlq i hm
   have hy : (Y.map fun i => ((i : Nat) : Int))[k]? = some (i : Int) := by rw [List.getElem?_map, O]; rfl
   refine .bind' (.eq (A0 hy) (.bind' (.eq (A0 M) ?_)))
   dsimp only
   rw [h2]
   refine As (fun h => .pure (.inl ⟨_, rfl, i, hm, h⟩)) fun h0 => .pure ?_
   dsimp only [Sum.elim_inl]
   rw [Bc (by omega)]
   refine ⟨⟨k + 1, rfl, by omega, i1.snoc fun j => by rw [F3 O]; simp, by omega, fun j hj => ?_⟩, by omega⟩
   rw [F3 O] at hj
   rcases List.mem_append.1 hj with h | h
   ·exact i3 j h
   ·rw [List.mem_singleton] at h; subst h; omega
  ·rw [List.take_of_length_le (by omega)] at i1; exact i1
  ·rw [List.take_of_length_le (by omega)] at i3; exact i3
 ·rintro _ (⟨m, rfl, i, X, h⟩ | ⟨most, rfl, hm, h60, h0⟩)
  ·exact .pure (.inl ⟨rfl, i, (G i).2 X, h⟩)
  ·simp only [Sum.elim_inr]
   unfold R0.J3
   dsimp only
   have := hm.pos
   rw [kI hWq (by omega) (by simp; omega) (by omega)]
   exact .bind' (.pure (.pure (.inr ⟨most, _, rfl, hm.same G, fun i X => h0 i ((G i).1 X), Np hWq hm.pos, by rw [List.length_map]; exact hWl⟩)))
def Ek (m0 tp : List Bool) (g : Nat → Bool) (i : Nat) : Bool := m0.getD i false && !(tp.getD i false && g i)
def Fp (m tp : List Bool) (i : Nat) : Bool := tp.getD i false && !(m.getD i false)
def Lj (d : Desk) (to : Plan) (g : Nat → Bool) : List Nat := pick d.Plan.Pumps.length (Ek d.Plan.Pumps to.Pumps g)
def Gn (d : Desk) (to : Plan) (g : Nat → Bool) (ramp rest : Int) (a b : List Path) : List Step := (Lj d to g).map Hl ++ Cz (-1) ramp rest a b
def Dr (d : Desk) (to : Plan) (g : Nat → Bool) (ramp rest : Int) (a b : List Path) : List Valve := d.Valves.map (vq (K0 (Gn d to g ramp rest a b)))
def eC (d : Desk) (to : Plan) (g : Nat → Bool) (ramp rest : Int) (a b : List Path) (most : Int) : List Step :=
 Gn d to g ramp rest a b ++ ((pick d.Valves.length (Co (Dr d to g ramp rest a b) (Dd to))).map Hy ++ (pick d.Valves.length (toOpen (Dr d to g ramp rest a b) (Dd to))).map K1) ++ E6 most ++ Cz 1 ramp rest b a ++
  (pick to.Pumps.length (Fp (C3 false (Lj d to g) d.Plan.Pumps) to.Pumps)).map Gz
def eD (l : List Step) : List Step × Int := if l.length > 400 then ([], 4) else (l, 0)
def Out1 (d : Desk) (to : Plan) (g : Nat → Bool) (ramp rest : Int) (a b : List Path) (r : List Step × Int) : Prop :=
 ((∃ i, Cmd (Dr d to g ramp rest a b) (Dd to) d.Valves.length i ∧ E4 (Dr d to g ramp rest a b) (Dd to) i < 0) ∧ r = ([], 20)) ∨
 ∃ G, IsMax (Cmd (Dr d to g ramp rest a b) (Dd to) d.Valves.length) (E4 (Dr d to g ramp rest a b) (Dd to)) G ∧ (∀ i, Cmd (Dr d to g ramp rest a b) (Dd to) d.Valves.length i → 0 ≤ E4 (Dr d to g ramp rest a b) (Dd to) i) ∧ r = eD (eC d to g ramp rest a b G)
theorem Out1.uniq {d : Desk} {to : Plan} {g : Nat → Bool} {ramp rest : Int} {a b : List Path} {r r' : List Step × Int} (h : Out1 d to g ramp rest a b r) (X : Out1 d to g ramp rest a b r') : r = r' := by
 rcases h with ⟨⟨i, G, O⟩, rfl⟩ | ⟨m, G, O, rfl⟩ <;> rcases X with ⟨⟨j, M, W⟩, rfl⟩ | ⟨Y, M, W, rfl⟩
 ·rfl
 ·have := W i G; omega
 ·have := O j M; omega
 ·rw [G.uniq M]
theorem Qj {α : Type} {l : List α} {i : Nat} {x d : α} (h : l[i]? = some x) : l.getD i d = x := by rw [List.getD_eq_getElem?_getD, h]; rfl
theorem Yy {m0 tp : List Bool} {g : Nat → Bool} {i : Nat} {x y : Bool} (h : m0[i]? = some x) (G : tp[i]? = some y) : Ek m0 tp g i = (x && !(y && g i)) := by unfold Ek; rw [Qj h, Qj G]
theorem Ug {m0 tp : List Bool} {i : Nat} {x y : Bool} (h : m0[i]? = some x) (G : tp[i]? = some y) : Fp m0 tp i = (y && !x) := by unfold Fp; rw [Qj h, Qj G]
theorem S9 {P : Nat → Bool} {m0 : List Bool} {k : Nat} : (C3 false (pick k P) m0)[k]? = m0[k]? := by
 rw [Ui, if_neg fun h => absurd (Fu.1 h.1).1 (Nat.lt_irrefl k)]
theorem J0 {P : Nat → Bool} {m0 : List Bool} {k : Nat} : C3 false (pick (k + 1) P) m0 = if P k = true then (C3 false (pick k P) m0).set k false else C3 false (pick k P) m0 := by
 rw [Dy, Tw]
 split <;> rfl
theorem rZ {n : Nw} {to c : Plan} {m0 : List Bool} {g : Nat → Bool} (hm : m0.length = n.Stations.length) (ht : to.Pumps.length = n.Stations.length) (hl : m0.length ≤ 1000) (hg : ∀ (i : Nat) (st : Sn), n.Stations[i]? = some st → N0 n c (i : Int) = some (g i)) :
  forJ (G1.B11 n to c) 0 m0.length ([], m0) = some ((pick m0.length (Ek m0 to.Pumps g)).map Hl, C3 false (pick m0.length (Ek m0 to.Pumps g)) m0) := by
 refine Hj ?_
 refine .forJ (fun k st => st = ((pick k (Ek m0 to.Pumps g)).map Hl, C3 false (pick k (Ek m0 to.Pumps g)) m0)) rfl ?_ fun st h => h
 rintro k _ hk rfl
 have hs : n.Stations[k]? = some (n.Stations[k]'(by omega)) := gq _
 have X : m0[k]? = some (m0[k]'(by omega)) := gq _
 have Y : to.Pumps[k]? = some (to.Pumps[k]'(by omega)) := gq _
 generalize m0[k]'(by omega) = x at X
 generalize to.Pumps[k]'(by omega) = y at Y
 have O := Yy (g := g) X Y
 have W := hg k _ hs
 have ac := Dx k (Ek m0 to.Pumps g)
 have j : ∀ z : Bool, z = Ek m0 to.Pumps g k → Ok (G1.J13 k ((pick k (Ek m0 to.Pumps g)).map Hl, C3 false (pick k (Ek m0 to.Pumps g)) m0) (k, x) z) fun st => st = ((pick (k + 1) (Ek m0 to.Pumps g)).map Hl, C3 false (pick (k + 1) (Ek m0 to.Pumps g)) m0) := by
  intro z Z
  unfold G1.J13 G1.J12
  refine Ax (fun M => .bind' (.app (by simp; omega) (.pure ?_))) fun M => .pure ?_
  ·rw [J0, Dy, ← Z, M]; simp [Hl]
  ·rw [J0, Dy, ← Z, M]; simp
 unfold G1.B11
 refine .bind' (.eq (A0 (S9.trans X)) (Ax (fun M => ?_) fun M => j _ ?_))
 ·dsimp only at M
  refine .bind' (.eq (A0 Y) (Ea (fun G => j _ ?_) fun G => ?_))
  ·dsimp only at G; rw [O, M, G]; rfl
  ·dsimp only at G
   rw [W]
   exact .bind' (.pure (j _ (by rw [O, M, G]; simp)))
 ·dsimp only at M; rw [O, M]; rfl
theorem rY {n : Nw} {to : Plan} {c : List Path} {m0 : List Bool} {g : Nat → Bool} (hm : m0.length = n.Stations.length) (ht : to.Pumps.length = n.Stations.length) (hl : m0.length ≤ 1000) (hg : ∀ (i : Nat) (st : Sn), n.Stations[i]? = some st → Iu n c st.Node = some (g i)) :
  Bx (Xe.B16 n to c) C0 ([], m0, 0) = some ((pick m0.length (Ek m0 to.Pumps g)).map Hl, C3 false (pick m0.length (Ek m0 to.Pumps g)) m0) := by
 refine Mh (fun k => ((pick k (Ek m0 to.Pumps g)).map Hl, C3 false (pick k (Ek m0 to.Pumps g)) m0, (k : Int))) m0.length rfl (by omega) (fun k hk => ?_) ?_ <;> (unfold Xe.B16; dsimp only; rw [I0])
 ·have X : n.Stations[k]? = some (n.Stations[k]'(by omega)) := gq _
  obtain ⟨x, Z⟩ : ∃ ζ, m0[k]? = some ζ := ⟨_, gq (by omega)⟩
  obtain ⟨y, hy⟩ : ∃ ζ, to.Pumps[k]? = some ζ := ⟨_, gq (by omega)⟩
  have W := Yy (g := g) Z hy
  have O := hg k _ X
  have hpl := Dx k (Ek m0 to.Pumps g)
  have Y : (C3 false (pick k (Ek m0 to.Pumps g)) m0)[k]? = some x := S9.trans Z
  rw [J0, Dy, W]
  have j : ∀ z : Bool, z = (x && !(y && g k)) → Ok (Xe.J18 ((pick k (Ek m0 to.Pumps g)).map Hl, C3 false (pick k (Ek m0 to.Pumps g)) m0, (k : Int)) z) fun o => o = .inl ((pick k (Ek m0 to.Pumps g) ++ if (x && !(y && g k)) = true then [k] else []).map Hl, (if (x && !(y && g k)) = true then (C3 false (pick k (Ek m0 to.Pumps g)) m0).set k false else C3 false (pick k (Ek m0 to.Pumps g)) m0), ((k + 1 : Nat) : Int)) := by
   intro z hz
   unfold Xe.J18 Xe.J17
   dsimp only
   rw [Bc (by omega), ← hz]
   exact Ax (fun M => .bind' (.app (by simp; omega) (.bind' (.eq (A0 Y) (.pure (by rw [M]; simp [Hl])))))) fun M => .pure (by rw [M]; simp)
  refine As (fun _ => .bind' (.eq (A0 Y) (Ax (fun M => ?_) fun M => j _ (by dsimp only at M; rw [M]; rfl)))) fun h => absurd h (by omega)
  dsimp only at M
  refine .bind' (.eq (A0 hy) (Ea (fun G => j _ (by dsimp only at G; rw [M, G]; rfl)) fun G => .bind' (.eq (A0 X) ?_)))
  dsimp only at G ⊢
  rw [O]
  exact .bind' (.pure (j _ (by rw [M, G]; simp)))
 ·exact As (fun h => absurd h (by omega)) fun _ => .pure rfl
theorem pE {to : Plan} {l l0 : List Step} {m : List Bool} (hl : l.length ≤ 1000000) (ht : to.Pumps.length ≤ 1000) (hm : m.length = to.Pumps.length) :
  forS (G1.B6 (l0, m)) 0 to.Pumps l = some (l ++ (pick to.Pumps.length (Fp m to.Pumps)).map Gz) := by
 refine Hj ?_
 refine .forS (fun k O => O = l ++ (pick k (Fp m to.Pumps)).map Gz) (by simp [pick]) ?_ fun O h => h
 rintro k y _ X rfl
 have Z := (gs X).1
 obtain ⟨x, W⟩ : ∃ ζ, m[k]? = some ζ := ⟨_, gq (by omega)⟩
 have M := Ug W X
 have ac := Dx k (Fp m to.Pumps)
 have j : ∀ z : Bool, z = Fp m to.Pumps k → Ok (G1.J8 k (l ++ (pick k (Fp m to.Pumps)).map Gz) z) fun O => O = l ++ (pick (k + 1) (Fp m to.Pumps)).map Gz := by
  intro z Y
  unfold G1.J8 G1.J7
  refine Ax (fun G => .bind' (.app (by simp; omega) (.pure ?_))) fun G => .pure ?_
  ·rw [Dy, ← Y, G]; simp [Gz]
  ·rw [Dy, ← Y, G]; simp
 unfold G1.B6
 refine Ax (fun G => .bind' (.eq (A0 W) (j _ ?_))) fun G => j _ ?_
 ·dsimp only; rw [M, G]; rfl
 ·rw [M, G]; rfl
theorem pD {to : Plan} {l l0 : List Step} {m : List Bool} (hl : l.length ≤ 1000000) (ht : to.Pumps.length ≤ 1000) (X : m.length = to.Pumps.length) :
  Bx (Xe.B6 to (l0, m)) C0 (l, 0) = some (l ++ (pick to.Pumps.length (Fp m to.Pumps)).map Gz) := by
 refine Mh (fun k => (l ++ (pick k (Fp m to.Pumps)).map Gz, (k : Int))) to.Pumps.length (by simp [pick]) (by omega) (fun k hk => ?_) ?_ <;> (unfold Xe.B6; dsimp only; rw [X])
 ·obtain ⟨x, O⟩ : ∃ ζ, m[k]? = some ζ := ⟨_, gq (by omega)⟩
  obtain ⟨y, W⟩ : ∃ ζ, to.Pumps[k]? = some ζ := ⟨_, gq (by omega)⟩
  have M := Ug O W
  have Y := Dx k (Fp m to.Pumps)
  rw [Dy, M]
  have j : ∀ z : Bool, z = (y && !x) → Ok (Xe.J8 (l ++ (pick k (Fp m to.Pumps)).map Gz, (k : Int)) z) fun o => o = .inl (l ++ (pick k (Fp m to.Pumps) ++ if (y && !x) = true then [k] else []).map Gz, ((k + 1 : Nat) : Int)) := by
   intro z Z
   unfold Xe.J8 Xe.J7
   dsimp only
   rw [Bc (by omega), ← Z]
   exact Ax (fun G => .bind' (.app (by simp; omega) (.pure (by rw [G]; simp [Gz])))) fun G => .pure (by rw [G]; simp)
  refine As (fun _ => .bind' (.eq (A0 W) (Ax (fun G => .bind' (.eq (A0 O) (j _ (by dsimp only at G ⊢; rw [G]; rfl)))) fun G => j _ (by dsimp only at G; rw [G]; rfl)))) fun h => absurd h (by omega)
 ·exact As (fun h => absurd h (by omega)) fun _ => .pure rfl
theorem uA {V : List Valve} {nd : List Bool} (hv : ∀ v, v ∈ V → VQ v) (hl : V.length ≤ 1000) (hn : nd.length = V.length) {x : List Step} {rest : Int} :
  Bx (Xe.B10 (x, V, rest) nd) C0 ([], [], 0) = some ((pick V.length (Co V nd)).map (fun i => ((i : Nat) : Int)), (pick V.length (toOpen V nd)).map fun i => ((i : Nat) : Int)) := by
 refine Mh (fun k => ((pick k (Co V nd)).map (fun i => ((i : Nat) : Int)), (pick k (toOpen V nd)).map (fun i => ((i : Nat) : Int)), (k : Int))) V.length rfl (by omega) (fun k hk => ?_) ?_ <;> (unfold Xe.B10; dsimp only; rw [hn])
 ·obtain ⟨v, hx⟩ : ∃ ζ, V[k]? = some ζ := ⟨_, gq (by omega)⟩
  obtain ⟨M, hy⟩ : ∃ ζ, nd[k]? = some ζ := ⟨_, gq (by omega)⟩
  have hw := hv v (mg hx)
  have es : Co V nd k = (!M && !(v.Open == 0 && !v.Want)) := by unfold Co; rw [hx, hy]; cases M <;> rfl
  have eo : toOpen V nd k = (M && !(v.Open == v.Travel && v.Want)) := by unfold toOpen; rw [hx, hy]; cases M <;> rfl
  have hcl := Dx k (Co V nd); have hol := Dx k (toOpen V nd)
  generalize hA : (pick k (Co V nd)).map (fun i => ((i : Nat) : Int)) = A
  generalize hB : (pick k (toOpen V nd)).map (fun i => ((i : Nat) : Int)) = B
  have hAl : A.length ≤ k := by rw [← hA, List.length_map]; exact hcl
  have hBl : B.length ≤ k := by rw [← hB, List.length_map]; exact hol
  have eA : (pick (k + 1) (Co V nd)).map (fun i => ((i : Nat) : Int)) = A ++ if Co V nd k = true then [(k : Int)] else [] := by rw [Dy, List.map_append, hA]; split <;> rfl
  have eB : (pick (k + 1) (toOpen V nd)).map (fun i => ((i : Nat) : Int)) = B ++ if toOpen V nd k = true then [(k : Int)] else [] := by rw [Dy, List.map_append, hB]; split <;> rfl
  rw [eA, eB]
  obtain ⟨A', Z⟩ : ∃ A', A' = A ++ if Co V nd k = true then [(k : Int)] else [] := ⟨_, rfl⟩
  rw [← Z]
  have X : ∀ z : Bool, z = toOpen V nd k → Ok (Xe.J13 (A, B, (k : Int)) A' z) fun o => o = .inl (A', B ++ (if toOpen V nd k = true then [(k : Int)] else []), ((k + 1 : Nat) : Int)) := by
   intro z hz
   unfold Xe.J13 Xe.J11
   dsimp only
   rw [Bc (by omega), ← hz]
   exact Ax (fun G => .bind' (.app (by simp; omega) (.pure (by rw [G]; simp)))) fun G => .pure (by rw [G]; simp)
  have ac : Ok (Xe.J12 nd (A, B, (k : Int)) (k, v) A') fun o => o = .inl (A', B ++ (if toOpen V nd k = true then [(k : Int)] else []), ((k + 1 : Nat) : Int)) := by
   unfold Xe.J12
   refine .bind' (.eq (A0 hy) ?_)
   dsimp only
   rw [dE hw]
   exact Ax (fun G => Ea (fun W => X _ (by rw [eo, G, W]; rfl)) fun W => X _ (by rw [eo, G, W]; simp)) fun G => X _ (by rw [eo, G]; rfl)
  have Y : ∀ z : Bool, z = Co V nd k → Ok (Xe.J14 nd (A, B, (k : Int)) (k, v) z) fun o => o = .inl (A', B ++ (if toOpen V nd k = true then [(k : Int)] else []), ((k + 1 : Nat) : Int)) := by
   intro z hz
   have O : A' = A ++ if z = true then [(k : Int)] else [] := by rw [hz]; exact Z
   unfold Xe.J14
   refine Ax (fun G => .bind' (.app (by simp; omega) ?_)) fun G => ?_
   ·rw [G] at O; simp only [if_true] at O; rw [← O]; exact ac
   ·rw [G] at O; simp at O; dsimp only; rw [← O]; exact ac
  refine As (fun _ => .bind' (.eq (A0 hx) (.bind' (.eq (A0 hy) ?_)))) fun h => absurd h (by omega)
  dsimp only
  rw [fB hw]
  exact Ea (fun G => Ea (fun W => Y _ (by rw [es, G, W]; rfl)) fun W => Y _ (by rw [es, G, W]; simp)) fun G => Y _ (by rw [es, G]; rfl)
 ·exact As (fun h => absurd h (by omega)) fun _ => .pure rfl
theorem Uf : ∀ l : List Nat, K0 (l.map Hl) = 0
 | [] => rfl
 | i :: l => by simp only [List.map_cons, K0, Uf l]; rfl
theorem Le {sign ramp rest : Int} {l other : List Path} {k : Nat} {x : Path} (h : l[k]? = some x) : Cz sign ramp rest (l.take (k + 1)) other = Cz sign ramp rest (l.take k) other ++ El x sign ramp rest (x.Rate - mr other x) := by
 unfold Cz
 rw [F3 h, List.flatMap_append]; simp
structure Two (n : Network) (p q : Plan) (a b : List Path) : Prop where
 pa : ∀ x, x ∈ a → PathOk n p x
 pb : ∀ x, x ∈ b → PathOk n q x
 la : a.length ≤ 14
 lb : b.length ≤ 14
 aa : Ja a
 ab : Ja b
theorem Two.cmn_small {n : Nw} {p q : Plan} {a b : List Path} (h : Two n p q a b) : (∀ x, x ∈ Hk b a → x.Hops.length ≤ 1000) ∧ (Hk b a).length ≤ 1000 := by
 have M := Kk b a
 have := h.la
 exact ⟨fun x G => by have := (Qn h.pa x G).small; omega, by omega⟩
theorem uG {n : Nw} {p q : Plan} {a b : List Path} (h : Two n p q a b) {ramp rest : Int} (hr : 1 ≤ ramp ∧ ramp ≤ 1000) (ht : 0 ≤ rest ∧ rest ≤ 100) {st : List Step} {V : List Valve} (hs : st.length ≤ 100000) (hv : ∀ v, v ∈ V → VQ v) (hl : V.length ≤ 1000) :
  Bx (Xe.B15 a ramp (Hk b a)) C0 (st, V, rest, 0) = some (st ++ Cz (-1) ramp rest a b, V.map (vq (K0 (Cz (-1) ramp rest a b))), rest) := by
 have hla := h.la
 refine Mh (fun k => (st ++ Cz (-1) ramp rest (a.take k) b, V.map (vq (K0 (Cz (-1) ramp rest (a.take k) b))), rest, (k : Int))) a.length ?_ (by omega) (fun k hk => ?_) ?_
 ·show (st ++ [], V.map (vq 0), rest, ((0 : Nat) : Int)) = _
  rw [Jx hv, List.append_nil]; rfl
 ·unfold Xe.B15
  dsimp only
  obtain ⟨x, Y⟩ : ∃ ζ, a[k]? = some ζ := ⟨_, gq (by omega)⟩
  have O := mg Y
  have Z := (h.pa x O).small
  have hm := Hz (l := b) (u := x) (fun y G => (h.pb y G).small.2.1) Z.2.1
  have W := Eg (sign := -1) (rest := rest) hr.1 (fun y G => (h.pb y G).small.2.1) (l := a.take k) fun y G => h.pa y (List.mem_of_mem_take G)
  rw [List.length_take] at W
  have M := Ho (Cz (-1) ramp rest (a.take k) b)
  have X := Ho (El x (-1) ramp rest (x.Rate - mr b x))
  refine As (fun _ => .bind' (.eq (A0 Y) ?_)) fun h => absurd h (by omega)
  dsimp only
  rw [kP h.cmn_small.1 h.cmn_small.2, aR h.aa (fun u hu => (Hz (fun y G => (h.pb y G).small.2.1) (h.pa u hu).small.2.1).1) x O ⟨rfl, rfl, rfl⟩]
  refine .bind' (.pure ?_)
  have e : mr b x = x.Rate + -1 * (x.Rate - mr b x) := by omega
  have hf := lC (st := st ++ Cz (-1) ramp rest (a.take k) b) (vs := V.map (vq (K0 (Cz (-1) ramp rest (a.take k) b)))) (rest := rest) (u := x) (sign := -1) (ramp := ramp) (b := x.Rate - mr b x) (f := x.Rate) (Np hv M.1) (by simpa using hl) (by simp; omega) ht (by omega) (.inr rfl) hr (by omega) (by omega) (by omega)
  rw [← e] at hf
  rw [hf]
  refine .bind' (.pure (.pure ?_))
  rw [Bc (by omega), Le Y, Hb, ← kJ hv M.1 X.1, List.append_assoc]; rfl
 ·unfold Xe.B15
  refine As (fun h => absurd h (by dsimp only; omega)) fun _ => .pure ?_
  dsimp only
  rw [List.take_length]
theorem uY {n : Nw} {p q : Plan} {a b : List Path} (h : Two n p q a b) {ramp rest : Int} (hr : 1 ≤ ramp ∧ ramp ≤ 1000) (ht : 0 ≤ rest ∧ rest ≤ 100) {st : List Step} {V : List Valve} (hs : st.length ≤ 100000) (hv : ∀ v, v ∈ V → VQ v) (hl : V.length ≤ 1000) :
  ∃ W, Bx (Xe.B9 b ramp (Hk b a)) C0 (st, V, rest, 0) = some (st ++ Cz 1 ramp rest b a, W, rest) := by
 have hla := h.lb
 have : Ok (Bx (Xe.B9 b ramp (Hk b a)) C0 (st, V, rest, 0)) fun r => ∃ W, r = (st ++ Cz 1 ramp rest b a, W, rest) := by
  refine .loop (S := List Step × List Valve × Int × Int) (fun s => ∃ (k : Nat) (W : List Valve), s = (st ++ Cz 1 ramp rest (b.take k) a, W, rest, (k : Int)) ∧ k ≤ b.length ∧ (∀ v, v ∈ W → VQ v) ∧ W.length ≤ 1000) (fun s => b.length - s.2.2.2.toNat) ⟨0, V, ?_, by omega, hv, hl⟩ (by dsimp only; omega) ?_
  ·show _ = (st ++ [], V, rest, ((0 : Nat) : Int))
   rw [List.append_nil]; rfl
  rintro _ ⟨k, W, rfl, hk, hw, M⟩
  unfold Xe.B9
  dsimp only
  refine As (fun hlt => ?_) fun hge => .pure ⟨W, ?_⟩
  ·obtain ⟨x, Z⟩ : ∃ ζ, b[k]? = some ζ := ⟨_, gq (by omega)⟩
   have O := mg Z
   have ac := (h.pb x O).small
   have hm := Hz (l := a) (u := x) (fun y G => (h.pa y G).small.2.1) ac.2.1
   have X := Eg (sign := 1) (rest := rest) hr.1 (fun y G => (h.pa y G).small.2.1) (l := b.take k) fun y G => h.pb y (List.mem_of_mem_take G)
   rw [List.length_take] at X
   have Y := Ho (El x 1 ramp rest (x.Rate - mr a x))
   refine .bind' (.eq (A0 Z) ?_)
   dsimp only
   rw [kP h.cmn_small.1 h.cmn_small.2, lY h.aa h.ab (fun y G => (h.pb y G).small.2.1) (fun y G => (h.pa y G).small.2.1) O]
   refine .bind' (.pure ?_)
   have e : x.Rate = mr a x + 1 * (x.Rate - mr a x) := by omega
   have hf := lC (st := st ++ Cz 1 ramp rest (b.take k) a) (vs := W) (rest := rest) (u := x) (sign := 1) (ramp := ramp) (b := x.Rate - mr a x) (f := mr a x) hw M (by simp; omega) ht (by omega) (.inl rfl) hr (by omega) (by omega) (by omega)
   rw [← e] at hf
   rw [hf]
   refine .bind' (.pure (.pure ?_))
   dsimp only [Sum.elim_inl]
   rw [Bc (by omega)]
   refine ⟨⟨k + 1, _, ?_, by omega, Np hw Y.1, by simpa using M⟩, by omega⟩
   rw [Le Z, List.append_assoc]; rfl
  ·rw [List.take_of_length_le (by omega)]
 obtain ⟨r, h, W, rfl⟩ := this
 exact ⟨W, h⟩
theorem pC {n : Nw} (hn : NetF n) {d : Desk} {to : Plan} {a b : List Path} (h : Two n d.Plan to a b) {ramp rest : Int} (Z : 1 ≤ ramp ∧ ramp ≤ 1000) (ht : 0 ≤ rest ∧ rest ≤ 100) (hv : ∀ v, v ∈ d.Valves → VQ v) (hvl : d.Valves.length = n.Segments.length + n.Ports.length)
  (ae : d.Plan.Pumps.length = n.Stations.length) (htm : to.Pumps.length = n.Stations.length) (htr : to.Rates.length = n.Segments.length) (htp : to.Ports.length = n.Ports.length)
  {g : Nat → Bool} (hg : ∀ (i : Nat) (st : Sn), n.Stations[i]? = some st → Iu n (Hk b a) st.Node = some (g i)) :
  Ok (Xe n d to a b ramp rest) (Out1 d to g ramp rest a b) := by
 have h1 := hn.segs1; have h2 := hn.ports1; have h3 := hn.sts1
 have hla := h.la; have hlb := h.lb
 unfold Xe
 rw [mN (fun u hu => by have := (h.pa u hu).small; omega) (fun u hu => by have := (h.pb u hu).small; omega) (by omega) (by omega)]
 refine .bind' (.pure (.bind' (.app (by simp; omega) (.bind' (.app (by simp; omega) ?_)))))
 rw [List.nil_append, List.nil_append, rY ae htm (by omega) hg]
 refine .bind' (.pure ?_)
 unfold Xe.J1
 dsimp only
 have hpl := Dx d.Plan.Pumps.length (Ek d.Plan.Pumps to.Pumps g)
 rw [uG h Z ht (by simp; omega) hv (by omega)]
 refine .bind' (.pure ?_)
 unfold Xe.J2
 rw [Xv (by omega) (by omega)]
 refine .bind' (.pure ?_)
 rw [cS (by simp; omega) (by simp; omega)]
 refine .bind' (.pure ?_)
 have hfl := Eg (sign := -1) (rest := rest) Z.1 (fun y hy => (h.pb y hy).small.2.1) h.pa
 have hful := Eg (sign := 1) (rest := rest) Z.1 (fun y hy => (h.pa y hy).small.2.1) h.pb
 have hV : d.Valves.map (vq (K0 (Cz (-1) ramp rest a b))) = Dr d to g ramp rest a b := by
  unfold Dr Gn
  rw [Hb, Uf, Int.zero_add]
 have O : (pick d.Plan.Pumps.length (Ek d.Plan.Pumps to.Pumps g)).map Hl ++ Cz (-1) ramp rest a b = Gn d to g ramp rest a b := rfl
 have ac : (Dr d to g ramp rest a b).length = d.Valves.length := by unfold Dr; rw [List.length_map]
 have M : ∀ v, v ∈ Dr d to g ramp rest a b → VQ v := Np hv (Ho _).1
 have hsl : (Gn d to g ramp rest a b).length ≤ 30000 := by rw [← O]; simp; omega
 rw [show to.Rates.map (fun r => r != 0) ++ to.Ports.map (fun r => r != 0) = Dd to from rfl, hV, O]
 have hnl := If htr htp
 rw [uA M (by omega) (by omega)]
 refine .bind' (.pure ?_)
 unfold Xe.J3
 dsimp only
 refine .bind (rX M (by omega) (by omega)) ?_
 rw [ac]
 have hcl := Dx d.Valves.length (Co (Dr d to g ramp rest a b) (Dd to)); have hol := Dx d.Valves.length (toOpen (Dr d to g ramp rest a b) (Dd to))
 rintro ⟨ok, m⟩ (⟨X, Y⟩ | ⟨G, W, X, Y, h6, h7, h8⟩)
 ·dsimp only at X
  subst X
  exact Ea (fun _ => .pure (.inl ⟨Y, rfl⟩)) fun h => by cases h
 ·cases X
  refine Ea (fun h => by cases h) fun _ => ?_
  dsimp only
  have hw := Ic G
  obtain ⟨W', ad⟩ := uY h Z ht (st := Gn d to g ramp rest a b ++ ((pick d.Valves.length (Co (Dr d to g ramp rest a b) (Dd to))).map Hy ++ (pick d.Valves.length (toOpen (Dr d to g ramp rest a b) (Dd to))).map K1) ++ E6 G) (by simp; omega) h7 (by omega)
  rw [ad]
  refine .bind' (.pure ?_)
  unfold Xe.J4
  dsimp only
  rw [pD (by simp; omega) (by omega) (by rw [I0]; omega)]
  refine .bind' (.pure ?_)
  unfold Xe.J5
  refine As (fun h => .pure (.inr ⟨G, Y, h6, ?_⟩)) fun h => .pure (.inr ⟨G, Y, h6, ?_⟩)
  ·unfold eD; rw [if_pos]; unfold eC Lj; omega
  ·unfold eD; rw [if_neg]
   ·rfl
   ·unfold eC Lj; omega
theorem uF {n : Nw} (G : NetF n) {q : Plan} (W : FlowOk n q) {l : List Path} (h : Jn n l (List.replicate n.Stations.length false) = some (q, 0)) {v : Int} (hv : 0 ≤ v ∧ v < (n.Nodes.length : Int)) :
  Ok (Iu n l v) fun r => r = true ↔ Ew n q.Rates q.Ports v := by
 have Z := G.sts1
 unfold Iu
 refine .bind' (.mk n.Stations.length rfl (by omega) ?_)
 rw [h]
 refine .bind' (.pure ?_)
 unfold Iu.J1
 refine Cj (fun h => absurd rfl h) fun _ => .bind (Pd G W hv) fun r X => .pure ?_
 obtain ⟨M, Y, O⟩ := X
 rw [M, ← O]
 simp only [Bool.and_eq_true, decide_eq_true_eq, BEq.rfl, true_and]
 omega
theorem Zr {n : Nw} (c : Plan) : ∃ g : Nat → Bool, ∀ (i : Nat) (st : Sn), n.Stations[i]? = some st → (g i = true ↔ Ew n c.Rates c.Ports st.Node) := by
 classical
 refine ⟨fun i => decide (∃ st, n.Stations[i]? = some st ∧ Ew n c.Rates c.Ports st.Node), fun i st M => ?_⟩
 rw [decide_eq_true_eq]
 exact ⟨fun ⟨W, G, O⟩ => by rw [M] at G; cases G; exact O, fun h => ⟨st, M, h⟩⟩
theorem Zh {n : Nw} (W : NetF n) {c : Plan} (hc : FlowOk n c) {g : Nat → Bool} (hg : ∀ (i : Nat) (st : Sn), n.Stations[i]? = some st → (g i = true ↔ Ew n c.Rates c.Ports st.Node)) {i : Nat} {st : Sn} (G : n.Stations[i]? = some st) : N0 n c (i : Int) = some (g i) := by
 obtain ⟨r, M, O⟩ := fR W hc G
 rw [M, Bool.eq_iff_iff.2 (O.trans (hg i st G).symm)]
theorem qW {n : Nw} (G : NetF n) {q : Plan} (X : FlowOk n q) {l : List Path} (h : Jn n l (List.replicate n.Stations.length false) = some (q, 0)) {g : Nat → Bool} (hg : ∀ (i : Nat) (st : Sn), n.Stations[i]? = some st → (g i = true ↔ Ew n q.Rates q.Ports st.Node)) {i : Nat} {st : Sn} (M : n.Stations[i]? = some st) : Iu n l st.Node = some (g i) := by
 obtain ⟨r, O, W⟩ := uF G X h (G.sts i st M).node
 rw [O, Bool.eq_iff_iff.2 (W.trans (hg i st M).symm)]
theorem Acyc.pumps {n : Nw} {p : Plan} {m : List Bool} (h : Acyc n p) : Acyc n ⟨p.Rates, p.Ports, m⟩ := h
theorem FlowOk.pumps {n : Nw} {p : Plan} (h : FlowOk n p) {m : List Bool} (G : m.length = n.Stations.length) : FlowOk n ⟨p.Rates, p.Ports, m⟩ := ⟨h.rl, h.pl, G, h.rng, h.prt, h.bal, h.acyc⟩
theorem uR {n : Nw} (O : NetF n) {up : Bool} {p : Plan} (M : FlowOk n p) {l : List Path} (G : Divided n up p l) : Jn n l (List.replicate n.Stations.length false) = some (⟨p.Rates, p.Ports, List.replicate n.Stations.length false⟩, 0) :=
 qT (q := ⟨p.Rates, p.Ports, List.replicate n.Stations.length false⟩) O G.res M.rl G.paths G.count M.rl M.pl (by simp) G.sumR G.sumP (Mn O (M.pumps (by simp)))
theorem uQ {n : Nw} (O : NetF n) {up : Bool} {p : Plan} (W : PlanOk n p) {a b : List Path} (M : Divided n up p a) (hb : ∀ y, y ∈ b → 1 ≤ y.Rate ∧ y.Rate ≤ 1000) (G : Part a (a.map (mr b))) :
  Jn n (Hk b a) (List.replicate n.Stations.length false) = some (Ip n a (a.map (mr b)) (List.replicate n.Stations.length false), 0) := by
 have hl := Kk b a; have Z := M.count
 have X := mO hb fun u Y => (M.paths u Y).small.2.1
 refine qT (q := Ip n a (a.map (mr b)) (List.replicate n.Stations.length false)) O M.res W.rl (Qn M.paths) (by omega) (Et ..) (Eu ..) (by simp [Ip]) (fun k r h => ?_) (fun k r h => ?_) (Mn O (Ul W M G (by simp)).flow)
 ·rw [X.1]; exact (L4 h).2
 ·rw [X.2]; exact (L5 h).2
theorem tB {n : Nw} {M O : Bool} {p q : Plan} {a b : List Path} (G : Divided n M p a) (hb : Divided n O q b) : Two n p q a b := ⟨G.paths, hb.paths, G.count, hb.count, G.apt, hb.apt⟩
theorem X9 {n : Nw} (O : NetF n) {d : Desk} {to : Plan} (Z : PlanOk n d.Plan) (ht : PlanOk n to) (hv : ∀ v, v ∈ d.Valves → VQ v) (hvl : d.Valves.length = n.Segments.length + n.Ports.length) (hc : It n d = some 0) (hc' : Is n d = some 0)
  {ramp rest : Int} (hr : 1 ≤ ramp ∧ ramp ≤ 1000) (hs : 0 ≤ rest ∧ rest ≤ 100) : ∃ r, G1 n d to ramp rest = some r ∧ H3 n d to ramp rest = some r ∧ (r.1 = [] ∨ ∃ g a b, Two n d.Plan to a b ∧ Out1 d to g ramp rest a b r) := by
 have h1 := O.segs1; have h2 := O.ports1; have h3 := O.sts1; have hml := Z.ml; have htm := ht.ml; have htr := ht.rl; have htp := ht.pl
 obtain ⟨⟨a, _⟩, ea, rfl, upa, Y⟩ := Va O Z
 obtain ⟨⟨b, _⟩, eb, rfl, upb, M⟩ := Va O ht
 dsimp only at Y M
 have ac : Part a (a.map (mr b)) := .common Y.paths M.paths
 have hcm := (Ul Z Y ac (pumps := List.replicate n.Stations.length false) (by simp)).flow
 have hac := Y.count; have hbc := M.count
 have hbr : ∀ y, y ∈ b → 1 ≤ y.Rate ∧ y.Rate ≤ 1000 := fun y hy => (M.paths y hy).small.2
 obtain ⟨g, hg⟩ := Zr (n := n) (Ip n a (a.map (mr b)) (List.replicate n.Stations.length false))
 obtain ⟨g2, hg2⟩ := Zr (n := n) to
 have two := tB Y M
 obtain ⟨r27, e27, o27⟩ := pC O two hr hs hv hvl hml htm htr htp (g := g) fun i st G => qW O hcm (uQ O Z Y hbr ac) hg G
 have hfed := fun (i : Nat) (st : Sn) (G : n.Stations[i]? = some st) => qW O (ht.flow.pumps (m := List.replicate n.Stations.length false) (by simp)) (uR O ht.flow M) (g := g2) hg2 G
 have hlv := fun (i : Nat) (st : Sn) (G : n.Stations[i]? = some st) => Zh O ht.flow (g := g2) hg2 G
 have prog : Ok (G1 n d to ramp rest) fun r => ((∃ i, to.Pumps[i]? = some true ∧ g2 i = false) ∧ r = ([], 22)) ∨ (¬ (∃ i : Nat, to.Pumps[i]? = some true ∧ g2 i = false) ∧ Out1 d to g ramp rest a b r) := by
  unfold G1 Oi
  rw [hc, Yq O ht.flow, ea, eb]
  refine .bind' (.bind' (.pure (Cj (fun h => absurd rfl h) fun _ => .bind' (.pure (Cj (fun h => absurd rfl h) fun _ => Ax (fun h => ?_) fun _ => .pure (Cj (fun h => absurd rfl h) fun _ => ?_))))))
  ·simp at h; omega
  refine .bind' (.pure (Cj (fun h => absurd rfl h) fun _ => .bind' (.pure (Cj (fun h => absurd rfl h) fun _ => ?_))))
  refine .bind (wG (d := (([] : List Step), (22 : Int))) (P := fun k x => x = true ∧ g2 k = false) fun k x hx => ?_) ?_
  ·have hkl := (gs hx).1
   obtain ⟨st, G⟩ := at_ (l := n.Stations) (k := k) (by omega)
   unfold G1.B14 G1.J15
   refine Ax (fun M => ?_) fun M => .test (by rw [M]; simp)
   rw [hlv k _ G]
   exact .bind' (.pure (.test (by rw [M]; simp)))
  ·rintro _ (⟨⟨k, x, hx, h1, h2⟩, rfl⟩ | ⟨hi, rfl⟩)
   ·exact .pure (.inl ⟨⟨k, by rw [hx, h1], h2⟩, rfl⟩)
   have hno : ¬ ∃ i : Nat, to.Pumps[i]? = some true ∧ g2 i = false := fun ⟨i, h⟩ => hi i true h.1 ⟨rfl, h.2⟩
   simp only [Sum.elim_inl]
   unfold G1.J1
   rw [qU O ht.flow, pU O Y M.paths M.apt]
   have hclone : Rz d.Plan.Pumps = some d.Plan.Pumps := by unfold Rz; rw [Ft (by simp; omega)]; rfl
   rw [hclone]
   refine .bind' (.pure (Cj (fun h => absurd rfl h) fun _ => .bind' (.pure (.bind' (.pure ?_)))))
   rw [rZ hml htm (by omega) fun i st G => Zh O hcm hg G]
   refine .bind' (.pure ?_)
   have hpl := Dx d.Plan.Pumps.length (Ek d.Plan.Pumps to.Pumps g)
   have fa := Eg (sign := -1) (rest := rest) hr.1 (fun y hy => (M.paths y hy).small.2.1) Y.paths
   have fb := Eg (sign := 1) (rest := rest) hr.1 (fun y hy => (Y.paths y hy).small.2.1) M.paths
   unfold G1.J2
   dsimp only
   rw [Ue M.apt (by omega)]
   refine .bind' (.pure ?_)
   rw [Uy (f := G1.B10 ramp rest (a, 0) (a.map (mr b))) (.inr rfl) hr hs Y.paths M.paths hac (by simp; omega) fun k st => rfl]
   refine .bind' (.pure ?_)
   unfold G1.J3
   rw [show (pick d.Plan.Pumps.length (Ek d.Plan.Pumps to.Pumps g)).map Hl ++ Cz (-1) ramp rest a b = Gn d to g ramp rest a b from rfl]
   have hol : (Gn d to g ramp rest a b).length ≤ 50000 := by unfold Gn Lj; simp; omega
   have htk := Ho (Gn d to g ramp rest a b)
   rw [lQ (by omega), Y8 (by simp; omega) (by simp; omega)]
   rw [show to.Rates.map (fun r => r != 0) ++ to.Ports.map (fun r => r != 0) = Dd to from rfl]
   have hnl := If htr htp
   have hVl : (Dr d to g ramp rest a b).length = d.Valves.length := by unfold Dr; rw [List.length_map]
   refine .bind' (.pure (.bind' (.pure (.bind (rW hv (by omega) htk.1 (by omega) rfl) ?_))))
   rw [show d.Valves.map (vq (K0 (Gn d to g ramp rest a b))) = Dr d to g ramp rest a b from rfl, hVl]
   have hcl := Dx d.Valves.length (Co (Dr d to g ramp rest a b) (Dd to)); have hol2 := Dx d.Valves.length (toOpen (Dr d to g ramp rest a b) (Dd to))
   rintro _ (⟨rfl, hbad⟩ | ⟨X, rfl, W, harr⟩)
   ·exact Ea (fun _ => .pure (.inr ⟨hno, .inl ⟨hbad, rfl⟩⟩)) fun h => by cases h
   have hm0 := W.pos
   have hm60 : X ≤ 60 := by
    rcases W.at_ with e | ⟨i, hi, e⟩
    ·omega
    ·have : E4 (Dr d to g ramp rest a b) (Dd to) i ≤ 60 := by
      unfold E4
      split
      ·rename_i v w hvi hwi
       exact (aT (Np hv htk.1 v (mg hvi))).2
      ·omega
     omega
   refine Ea (fun h => by cases h) fun _ => .bind' (.app (by simp; omega) ?_)
   dsimp only
   rw [qX (by omega) (by omega) (by simp; omega), Ue Y.apt (by omega)]
   refine .bind' (.pure (.bind' (.pure ?_)))
   have hw := Ic X
   rw [Uy (f := G1.B9 ramp rest (b, 0) (b.map (mr a))) (.inl rfl) hr hs M.paths Y.paths hbc (by simp; omega) fun k st => rfl]
   refine .bind' (.pure ?_)
   unfold G1.J4
   rw [pE (by simp; omega) (by omega) (by rw [I0]; omega)]
   refine .bind' (.pure ?_)
   unfold G1.J5
   refine As (fun h => .pure (.inr ⟨hno, .inr ⟨X, W, harr, ?_⟩⟩)) fun h => .pure (.inr ⟨hno, .inr ⟨X, W, harr, ?_⟩⟩)
   ·unfold eD; rw [if_pos]; unfold eC Lj; omega
   ·unfold eD; rw [if_neg]
    ·rfl
    ·unfold eC Lj; omega
 have refr : Ok (H3 n d to ramp rest) fun r => ((∃ i, to.Pumps[i]? = some true ∧ g2 i = false) ∧ r = ([], 22)) ∨ (¬ (∃ i : Nat, to.Pumps[i]? = some true ∧ g2 i = false) ∧ Out1 d to g ramp rest a b r) := by
  unfold H3
  rw [hc', Mn O ht.flow, Zn O Z ea, Zn O ht eb]
  refine .bind' (.pure (Cj (fun h => absurd rfl h) fun _ => .bind' (.pure (Cj (fun h => absurd rfl h) fun _ => Ax (fun h => ?_) fun _ => .bind' (.pure (Cj (fun h => absurd rfl h) fun _ => .bind' (.pure (Cj (fun h => absurd rfl h) fun _ => ?_))))))))
  ·simp at h; omega
  refine .bind (Qo (n := n.Stations.length) (d := (([] : List Step), (22 : Int))) (P := fun k => to.Pumps[k]? = some true ∧ g2 k = false) (by omega) (fun k hk => ?_) ?_) ?_
  ·unfold H3.B2 H3.J3
   obtain ⟨st, G⟩ := at_ hk
   obtain ⟨x, hx⟩ := at_ (l := to.Pumps) (k := k) (by omega)
   rw [hx]
   refine As (fun _ => .bind' (.eq (A0 hx) (Ax (fun M => .bind' (.eq (A0 G) ?_)) fun M => .tst (by dsimp only at M; rw [M]; simp)))) fun h => absurd h (by omega)
   dsimp only at M ⊢
   rw [hfed k _ G]
   exact .bind' (.pure (.tst (by rw [M]; simp)))
  ·unfold H3.B2
   rw [if_neg (by simp)]
  ·rintro _ (⟨⟨k, _, h⟩, rfl⟩ | ⟨h, rfl⟩)
   ·exact .pure (.inl ⟨⟨k, h⟩, rfl⟩)
   ·simp only [Sum.elim_inr]
    unfold H3.J1
    rw [e27]
    exact .bind' (.pure (.pure (.inr ⟨fun ⟨k, h'⟩ => h k (by have := (gs h'.1).1; omega) h', o27⟩)))
 obtain ⟨r, hp1, hp2⟩ := prog
 obtain ⟨r', hq1, hq2⟩ := refr
 refine ⟨r, hp1, ?_, hp2.imp (fun h => by rw [h.2]) fun h => ⟨g, a, b, two, h.2⟩⟩
 rw [hq1]
 rcases hp2 with ⟨h, rfl⟩ | ⟨h, ho⟩ <;> rcases hq2 with ⟨h', rfl⟩ | ⟨h', ho'⟩
 ·rfl
 ·exact absurd h h'
 ·exact absurd h' h
 ·rw [ho.uniq ho']
def M3 (n : Nw) (V : List Valve) : Prop := V.length = n.Segments.length + n.Ports.length ∧ ∀ v, v ∈ V → VQ v
theorem Vb {V : List Valve} : Ok (Xm V (fun x => some (Ly x))) fun r => r = true ↔ ¬ ∀ v, v ∈ V → VQ v := by
 unfold Xm
 refine .bind (Q := fun r : Int => (r = -1 ∧ ∀ v, v ∈ V → VQ v) ∨ (0 ≤ r ∧ ¬ ∀ v, v ∈ V → VQ v)) ?_ ?_
 ·unfold Xg
  refine .bind' (.forL (fun k _ => ∀ (i : Nat) (v : Valve), i < k → V[i]? = some v → VQ v) (fun r => 0 ≤ r ∧ ¬ ∀ v, v ∈ V → VQ v) (fun i v h => absurd h (Nat.not_lt_zero _)) ?_ ?_ ?_)
  ·intro k x _ Y X
   unfold Xg.B2
   refine .bind' (.pure (Ax (fun G => .pure ⟨by omega, fun h => ?_⟩) fun G => .pure fun i v ac M => ?_))
   ·have := (h x (mg Y)).validP
    unfold Ly at G
    rw [this] at G; cases G
   ·by_cases h : i = k
    ·subst h
     rw [Y] at M; cases M
     unfold Ly at G
     have W : Fq x = true := by simpa using G
     exact Pa.1 W
    ·exact X i v (by omega) M
  ·intro _ X
   refine .pure (.inl ⟨rfl, fun v M => ?_⟩)
   obtain ⟨i, h⟩ := List.getElem?_of_mem M
   exact X i v (gs h).1 h
  ·intro r h
   exact .pure (.inr h)
 ·rintro r (⟨rfl, h⟩ | ⟨Z, h⟩)
  ·exact .pure ⟨fun O => by simp at O, fun O => absurd h O⟩
  ·exact .pure ⟨fun _ => h, fun _ => decide_eq_true Z⟩
theorem eK {n : Nw} (h1 : n.Segments.length ≤ 1000) (h2 : n.Ports.length ≤ 1000) {V : List Valve} (hl : V.length ≤ 1000) : Ok (Xq n V) fun r => (r = 20 ∧ ¬ M3 n V) ∨ (r = 0 ∧ M3 n V) := by
 unfold Xq Si
 rw [Bc (by omega)]
 refine Cj (fun h => .pure (.inl ⟨rfl, fun M => by have := M.1; omega⟩)) fun Y => .bind (Qo (n := V.length) (d := 20) (P := fun k => ∃ v, V[k]? = some v ∧ ¬ VQ v) (by omega) (fun k G => ?_) ?_) ?_
 ·unfold Xq.B2
  obtain ⟨x, O⟩ := at_ G
  refine As (fun _ => .bind' (.eq (A0 O) (.tst ?_))) fun h => absurd h (by omega)
  rw [O, Bool.not_eq_true', ← Bool.not_eq_true, Pa]; simp
 ·unfold Xq.B2
  rw [if_neg (by simp)]
 ·rintro _ (⟨⟨k, _, v, h1, h2⟩, rfl⟩ | ⟨h, rfl⟩)
  ·exact .pure (.inl ⟨rfl, fun M => h2 (M.2 v (mg h1))⟩)
  ·refine .pure (.inr ⟨rfl, by omega, fun v X => Classical.byContradiction fun W => ?_⟩)
   obtain ⟨k, G⟩ := List.getElem?_of_mem X
   exact h k (gs G).1 ⟨v, G, W⟩
def Hp (V : List Valve) (nd : List Bool) : Prop := ∃ (i : Nat) (v : Valve), nd[i]? = some true ∧ V[i]? = some v ∧ ¬ (v.Open = v.Travel ∧ v.Want = true)
def Pz (n : Nw) (p : Plan) : Prop := ∃ (i : Nat) (st : Sn), n.Stations[i]? = some st ∧ p.Pumps[i]? = some true ∧ ¬ Ew n p.Rates p.Ports st.Node
theorem sS {n : Nw} (hn : NetF n) {p : Plan} (h : FlowOk n p) : Ok (Rs n p) fun r => r = true ↔ Pz n p := by
 unfold Rs
 refine .bind (wG (d := true) (P := fun k x => ∃ G, n.Stations[k]? = some G ∧ x = true ∧ ¬ Ew n p.Rates p.Ports G.Node) fun k x Z => ?_) ?_
 ·have hkl := (gs Z).1
  obtain ⟨G, Y⟩ := at_ (l := n.Stations) (k := k) (by have := h.ml; omega)
  rw [Y]
  unfold Rs.B2 Rs.J3
  refine Ax (fun X => As (fun _ => .bind (Ur hn h Y) fun r hr => .test (by cases r <;> simp [X, ← hr])) fun ac => absurd (gs Y).1 (by omega)) fun X => .test (by rw [X]; simp)
 ·rintro _ (⟨⟨k, x, Z, G, M, O, W⟩, rfl⟩ | ⟨hi, rfl⟩)
  ·exact .pure ⟨fun _ => ⟨k, G, M, by rw [Z, O], W⟩, fun _ => rfl⟩
  ·refine .pure ⟨fun h => (by cases h), ?_⟩
   rintro ⟨i, G, M, O, W⟩
   exact absurd ⟨G, M, rfl, W⟩ (hi i true O)
theorem sT {n : Nw} (W : NetF n) {p : Plan} (h : FlowOk n p) : Ok (Lq n p) fun r => r = false ↔ Pz n p := by
 have h3 := W.sts1; have hml := h.ml
 unfold Lq
 refine .bind (Qo (n := n.Stations.length) (d := false) (P := fun k => ∃ G, n.Stations[k]? = some G ∧ p.Pumps[k]? = some true ∧ ¬ Ew n p.Rates p.Ports G.Node) (by omega) (fun k hk => ?_) ?_) ?_
 ·obtain ⟨G, X⟩ := at_ hk
  obtain ⟨x, Y⟩ := at_ (l := p.Pumps) (k := k) (by omega)
  unfold Lq.B2 Lq.J3
  rw [X, Y]
  refine As (fun _ => .bind' (.eq (A0 Y) (Ax (fun M => .bind' (.eq (A0 X) (.bind (Pd W h (W.sts k _ X).node) fun r hr => .tst ?_))) fun M => .pure (.inr ⟨by dsimp only at M; rw [M]; simp, rfl⟩)))) fun h => absurd h (by omega)
  dsimp only at M
  obtain ⟨r1, r2, r3⟩ := hr
  rw [r1, M]; simp [← r3]
 ·unfold Lq.B2
  rw [if_neg (by simp)]
 ·rintro _ (⟨⟨k, _, G, O⟩, rfl⟩ | ⟨Z, rfl⟩)
  ·exact .pure ⟨fun _ => ⟨k, G, O⟩, fun _ => rfl⟩
  ·exact .pure ⟨fun h => (by cases h), fun ⟨i, G, O⟩ => absurd ⟨G, O⟩ (Z i (gs O.1).1)⟩
theorem pQ {n : Nw} (O : Sane n) (hf : En n = some 0 → NetF n) {d : Desk} (hl : d.Valves.length ≤ 1000) : ∃ r, It n d = some r ∧ Is n d = some r ∧ (r = 0 → NetF n ∧ FlowOk n d.Plan ∧ M3 n d.Valves) := by
 obtain ⟨e, c1, c2, c3⟩ := S1 O
 by_cases h0 : e = 0
 rotate_left
 ·refine ⟨e, ?_, ?_, fun h => absurd h h0⟩
  ·unfold It; rw [c1, Option.bind_some, if_pos (by simpa using h0)]
  ·unfold Is; rw [c2, Option.bind_some, if_pos (by simpa using h0)]
 subst h0
 have hn := hf c1
 obtain ⟨v, g1, g2⟩ := eK (n := n) O.segs O.ports hl
 have Nn : Nx n = ((n.Segments.length + n.Ports.length : Nat) : Int) := by
  have := O.segs; have := O.ports
  unfold Nx; rw [Bc (by omega)]; omega
 by_cases X : M3 n d.Valves
 rotate_left
 ·have hv20 : v = 20 := g2.elim And.left fun h => absurd h.2 X
  subst hv20
  refine ⟨20, ?_, ?_, fun h => by cases h⟩
  ·have : Ok (It n d) fun r => r = 20 := by
    unfold It
    rw [c1, Nn]
    refine .bind' (.pure (Cj (fun h => absurd rfl h) fun _ => Cj (fun _ => ?_) fun he => ?_))
    ·unfold It.J1; exact Ax (fun _ => .pure rfl) fun h => by cases h
    ·refine .bind Vb fun r Y => ?_
     have : r = true := Y.2 fun h => X ⟨by omega, h⟩
     unfold It.J1; exact Ax (fun _ => .pure rfl) fun h => by rw [this] at h; cases h
   obtain ⟨r, h, rfl⟩ := this
   exact h
  ·unfold Is; rw [c2, Option.bind_some, if_neg (by simp), g1]; rfl
 have hv0 : v = 0 := g2.elim (fun h => absurd X h.2) And.left
 subst hv0
 obtain ⟨f, f1, f2, f3⟩ := dK O d.Plan
 have hP : Ok (It n d) fun r => (f ≠ 0 ∧ r = f) ∨ (f = 0 ∧ ((Hp d.Valves (Dd d.Plan) ∧ r = 21) ∨ (¬ Hp d.Valves (Dd d.Plan) ∧ ((Pz n d.Plan ∧ r = 21) ∨ (¬ Pz n d.Plan ∧ r = 0))))) := by
  unfold It
  rw [c1, Nn]
  refine .bind' (.pure (Cj (fun h => absurd rfl h) fun _ => Cj (fun h => absurd (by rw [X.1]) h) fun _ => .bind Vb fun r Y => ?_))
  have : r = false := by
   cases r
   ·rfl
   ·exact absurd X.2 (Y.1 rfl)
  subst this
  unfold It.J1
  refine Ax (fun h => by cases h) fun _ => ?_
  rw [f1]
  refine .bind' (.pure (Cj (fun h => .pure (.inl ⟨h, rfl⟩)) fun h => ?_))
  have G : f = 0 := by simpa using h
  have Z := (f3 G).2
  have ad := Z.rl; have ac := Z.pl
  have := O.segs; have := O.ports
  rw [qU hn Z]
  refine .bind' (.pure (Cj (fun h => absurd rfl h) fun _ => ?_))
  dsimp only
  rw [Y8 (by simp; omega) (by simp; omega)]
  refine .bind' (.pure ?_)
  rw [show d.Plan.Rates.map (fun r => r != 0) ++ d.Plan.Ports.map (fun r => r != 0) = Dd d.Plan from rfl]
  have hnl := If ad ac
  refine .bind (Kn (d := 21) (P := fun k => ∃ v, (Dd d.Plan)[k]? = some true ∧ d.Valves[k]? = some v ∧ ¬ (v.Open = v.Travel ∧ v.Want = true)) fun k hk => ?_) ?_
  ·obtain ⟨x, hx⟩ := at_ hk
   obtain ⟨y, hy⟩ := at_ (l := d.Valves) (k := k) (by have := X.1; omega)
   unfold It.B3 It.J4
   rw [hx, hy]
   refine .bind' (.eq (A0 hx) (Ax (fun M => .bind' (.eq (A0 hy) (.test ?_))) fun M => .test (by dsimp only at M; rw [M]; simp)))
   dsimp only at M
   unfold Sj
   rw [kS (X.2 y (mg hy)), M]; simp [Classical.or_iff_not_imp_left]
  ·rintro _ (⟨⟨k, _, v, W⟩, rfl⟩ | ⟨hi, rfl⟩)
   ·exact .pure (.inr ⟨G, .inl ⟨⟨k, v, W⟩, rfl⟩⟩)
   have hnu : ¬ Hp d.Valves (Dd d.Plan) := fun ⟨i, v, h1⟩ => hi i (gs h1.1).1 ⟨v, h1⟩
   simp only [Sum.elim_inl]
   unfold It.J2
   refine .bind (sS hn Z) fun r Y => Ax (fun h => .pure (.inr ⟨G, .inr ⟨hnu, .inl ⟨Y.1 h, rfl⟩⟩⟩)) fun h => .pure (.inr ⟨G, .inr ⟨hnu, .inr ⟨fun W => ?_, rfl⟩⟩⟩)
   have := Y.2 W; rw [h] at this; cases this
 have hR : Ok (Is n d) fun r => (f ≠ 0 ∧ r = f) ∨ (f = 0 ∧ ((Hp d.Valves (Dd d.Plan) ∧ r = 21) ∨ (¬ Hp d.Valves (Dd d.Plan) ∧ ((Pz n d.Plan ∧ r = 21) ∨ (¬ Pz n d.Plan ∧ r = 0))))) := by
  unfold Is
  rw [c2, g1, f2]
  refine .bind' (.pure (Cj (fun h => absurd rfl h) fun _ => .bind' (.pure (Cj (fun h => absurd rfl h) fun _ => .bind' (.pure (Cj (fun h => .pure (.inl ⟨h, rfl⟩)) fun h => ?_))))))
  have G : f = 0 := by simpa using h
  have Z := (f3 G).2
  have ad := Z.rl; have ac := Z.pl
  have := O.segs; have := O.ports
  rw [Xv (by omega) (by omega)]
  refine .bind' (.pure ?_)
  rw [cS (by simp; omega) (by simp; omega)]
  refine .bind' (.pure ?_)
  rw [show d.Plan.Rates.map (fun r => r != 0) ++ d.Plan.Ports.map (fun r => r != 0) = Dd d.Plan from rfl]
  have hnl := If ad ac
  refine .bind (Qo (n := (Dd d.Plan).length) (d := 21) (P := fun k => ∃ v, (Dd d.Plan)[k]? = some true ∧ d.Valves[k]? = some v ∧ ¬ (v.Open = v.Travel ∧ v.Want = true)) (by omega) (fun k hk => ?_) ?_) ?_
  ·obtain ⟨x, hx⟩ := at_ hk
   obtain ⟨y, hy⟩ := at_ (l := d.Valves) (k := k) (by have := X.1; omega)
   unfold Is.B2 Is.J3
   rw [hx, hy]
   refine As (fun _ => .bind' (.eq (A0 hx) (Ax (fun M => .bind' (.eq (A0 hy) ?_)) fun M => .tst (by dsimp only at M; rw [M]; simp)))) fun h => absurd h (by omega)
   dsimp only at M ⊢
   rw [dE (X.2 y (mg hy)), M]
   exact Ea (fun h => .tst (by rw [beq_eq_false_iff_ne] at h; simp [h])) fun h => .tst (by rw [beq_iff_eq] at h; simp [h])
  ·unfold Is.B2
   rw [if_neg (by simp)]
  ·rintro _ (⟨⟨k, _, v, W⟩, rfl⟩ | ⟨hi, rfl⟩)
   ·exact .pure (.inr ⟨G, .inl ⟨⟨k, v, W⟩, rfl⟩⟩)
   ·have W : ¬ Hp d.Valves (Dd d.Plan) := fun ⟨i, v, h1⟩ => hi i (gs h1.1).1 ⟨v, h1⟩
    simp only [Sum.elim_inr]
    unfold Is.J1
    refine .bind (sT hn Z) fun r Y => Ea (fun h => .pure (.inr ⟨G, .inr ⟨W, .inl ⟨Y.1 h, rfl⟩⟩⟩)) fun h => .pure (.inr ⟨G, .inr ⟨W, .inr ⟨fun W => ?_, rfl⟩⟩⟩)
    have := Y.2 W; rw [h] at this; cases this
 obtain ⟨r, hp1, hp2⟩ := hP
 obtain ⟨r', hq1, hq2⟩ := hR
 have : r = r' := by
  rcases hp2 with ⟨a, rfl⟩ | ⟨a, ⟨b, rfl⟩ | ⟨b, ⟨c, rfl⟩ | ⟨c, rfl⟩⟩⟩ <;> rcases hq2 with ⟨a', rfl⟩ | ⟨a', ⟨b', rfl⟩ | ⟨b', ⟨c', rfl⟩ | ⟨c', rfl⟩⟩⟩ <;> first | rfl | exact absurd a' a | exact absurd a a' | exact absurd ‹Hp _ _› ‹¬ Hp _ _› | exact absurd ‹Pz _ _› ‹¬ Pz _ _›
 subst this
 refine ⟨r, hp1, hq1, fun h => ?_⟩
 subst h
 have : f = 0 := hp2.elim (fun h => h.2.symm) And.left
 exact ⟨hn, (f3 this).2, X⟩
def P0 (s : Step) : Prop := s.Path.Hops.length ≤ 1000 ∧ (s.Kind = 5 → -1000 ≤ s.Value ∧ s.Value ≤ 1000)
def StepsS (l : List Step) : Prop := l.length ≤ 400 ∧ ∀ s, s ∈ l → P0 s
theorem StepsS.nil : StepsS [] := ⟨by simp, fun s h => by cases h⟩
theorem cX {t : Int} : ∀ s, s ∈ E6 t → P0 s := fun s h => by
 unfold E6 at h
 split at h
 ·rw [List.mem_singleton] at h; subst h; exact ⟨by simp [T5], fun h => by cases h⟩
 ·cases h
theorem dO {u : Path} (M : u.Hops.length ≤ 1000) {sign ramp rest : Int} (G : sign = 1 ∨ sign = -1) (W : 1 ≤ ramp ∧ ramp ≤ 1000) : ∀ (m : Nat) (b : Int), b.toNat ≤ m → ∀ s, s ∈ El u sign ramp rest b → P0 s
 | 0, b, hb, s, h => by rw [Fj (by omega)] at h; cases h
 | m + 1, b, hb, s, h => by
  by_cases O : 0 < b
  ·rw [Ks O (by omega)] at h
   rcases List.mem_cons.1 h with rfl | h
   ·exact ⟨M, fun _ => by unfold cJ; rcases G with rfl | rfl <;> (dsimp only; omega)⟩
   ·rcases List.mem_append.1 h with h | h
    ·exact cX s h
    ·exact dO M G W m (b - ramp) (by omega) s h
  ·rw [Fj (by omega)] at h; cases h
theorem Te {l other : List Path} (hl : ∀ u, u ∈ l → u.Hops.length ≤ 1000) {sign ramp rest : Int} (M : sign = 1 ∨ sign = -1) (G : 1 ≤ ramp ∧ ramp ≤ 1000) : ∀ s, s ∈ Cz sign ramp rest l other → P0 s := fun s h => by
 unfold Cz at h
 obtain ⟨u, O, h⟩ := List.mem_flatMap.1 h
 exact dO (hl u O) M G _ _ (Nat.le_refl _) s h
theorem cP {f : Nat → Step} (hf : ∀ i, P0 (f i)) {l : List Nat} : ∀ s, s ∈ l.map f → P0 s := fun s h => by
 obtain ⟨i, _, rfl⟩ := List.mem_map.1 h
 exact hf i
theorem Out1.small {n : Nw} {d : Desk} {to : Plan} {g : Nat → Bool} {ramp rest : Int} (X : 1 ≤ ramp ∧ ramp ≤ 1000) {a b : List Path} (h : Two n d.Plan to a b) {r : List Step × Int} (ho : Out1 d to g ramp rest a b r) : StepsS r.1 := by
 rcases ho with ⟨_, rfl⟩ | ⟨m, _, _, rfl⟩
 ·exact .nil
 unfold eD
 split
 ·exact .nil
 rename_i W
 refine ⟨by dsimp only; omega, fun s M => ?_⟩
 have Y : ∀ u, u ∈ a → u.Hops.length ≤ 1000 := fun u O => by have := (h.pa u O).small; omega
 have Z : ∀ u, u ∈ b → u.Hops.length ≤ 1000 := fun u O => by have := (h.pb u O).small; omega
 have z : ∀ (k : Int) (i : Nat), k ≠ 5 → P0 ⟨k, (i : Int), 0, ⟨0, 0, [], 0⟩⟩ := fun k i hk => ⟨by simp, fun h => absurd h hk⟩
 unfold eC Gn at M
 simp only [List.mem_append] at M
 rcases M with ((((G | G) | G | G) | G) | G) | G
 ·exact cP (fun i => z 4 i (by decide)) s G
 ·exact Te Y (.inr rfl) X s G
 ·exact cP (fun i => z 2 i (by decide)) s G
 ·exact cP (fun i => z 1 i (by decide)) s G
 ·exact cX s G
 ·exact Te Z (.inl rfl) X s G
 ·exact cP (fun i => z 3 i (by decide)) s G
theorem Tg {n : Nw} (hs : Sane n) (hf : En n = some 0 → NetF n) {d : Desk} {to : Plan} (hl : d.Valves.length ≤ 1000) (Hd : NetF n → FlowOk n d.Plan → PlanOk n d.Plan) (Ht : NetF n → FlowOk n to → PlanOk n to) (ramp rest : Int) :
  ∃ r, G1 n d to ramp rest = some r ∧ H3 n d to ramp rest = some r ∧ StepsS r.1 := by
 obtain ⟨e, O, W, d3⟩ := pQ hs hf hl
 by_cases X : e = 0
 rotate_left
 ·refine ⟨([], e), ?_, ?_, .nil⟩
  ·unfold G1 Oi
   rw [O, Option.bind_some, if_pos (by simpa using X), Option.bind_some, if_pos (by simpa using X)]
  ·unfold H3
   rw [W, Option.bind_some, if_pos (by simpa using X)]
 subst X
 obtain ⟨Z, hp, hv⟩ := d3 rfl
 obtain ⟨f, f1, f2, f3⟩ := dK hs to
 by_cases G : f = 0
 rotate_left
 ·refine ⟨([], f), ?_, ?_, .nil⟩
  ·unfold G1 Oi
   rw [O, Option.bind_some, if_neg (by simp), f1, Option.bind_some, if_pos (by simpa using G), Option.bind_some, if_pos (by simpa using G)]
  ·unfold H3
   rw [W, Option.bind_some, if_neg (by simp), f2, Option.bind_some, if_pos (by simpa using G)]
 subst G
 by_cases hr : (decide (ramp < 1) || (decide (ramp > 1000) || (decide (rest < 0) || decide (rest > 100)))) = true
 ·refine ⟨([], 1), ?_, ?_, .nil⟩
  ·unfold G1 Oi
   rw [O, Option.bind_some, if_neg (by simp), f1, Option.bind_some, if_neg (by simp), if_pos hr, Option.bind_some, if_pos (by decide)]
  ·unfold H3
   rw [W, Option.bind_some, if_neg (by simp), f2, Option.bind_some, if_neg (by simp), if_pos hr]
 ·have M : (1 ≤ ramp ∧ ramp ≤ 1000) ∧ 0 ≤ rest ∧ rest ≤ 100 := by simp at hr; omega
  obtain ⟨r, e1, e2, Y⟩ := X9 Z (Hd Z hp) (Ht Z (f3 rfl).2) hv.2 hv.1 O W M.1 M.2
  refine ⟨r, e1, e2, ?_⟩
  rcases Y with Y | ⟨g, a, b, two, ho⟩
  ·rw [Y]; exact .nil
  ·exact ho.small M.1 two
theorem pP {n : Nw} (M : Sane n) (hf : En n = some 0 → NetF n) {d : Desk} (hl : d.Valves.length ≤ 1000) (Hd : NetF n → FlowOk n d.Plan → PlanOk n d.Plan) (ramp rest : Int) :
  ∃ r, On n d ramp rest = some r ∧ Od n d ramp rest = some r ∧ StepsS r.1 := by
 have Z := M.segs; have h2 := M.ports; have h3 := M.sts
 obtain ⟨r, O, W, X⟩ := Tg M hf hl (to := ⟨List.replicate n.Segments.length 0, List.replicate n.Ports.length 0, List.replicate n.Stations.length false⟩) Hd (fun hn G => by
  refine ⟨G.rl, G.pl, G.ml, G.rng, G.prt, fun v => ?_, .inl fun k r s Y _ => ?_⟩
  ·rw [Ia, Ia]; rfl
  ·have := (List.mem_replicate.1 (mg Y)).2
   exact ⟨fun h => by omega, fun h => by omega⟩) ramp rest
 refine ⟨r, ?_, ?_, X⟩
 ·have : Ok (On n d ramp rest) fun x => x = r := by
   unfold On On.J1
   exact .bind' (.mk n.Segments.length rfl (by omega) (.bind' (.mk n.Ports.length rfl (by omega) (.bind' (.mk n.Stations.length rfl (by omega) (.bind' (.eq O (.pure rfl))))))))
  obtain ⟨x, h, rfl⟩ := this
  exact h
 ·have : Ok (Od n d ramp rest) fun x => x = r := by
   unfold Od Od.J1
   exact .bind' (.mk n.Segments.length rfl (by omega) (.bind' (.mk n.Ports.length rfl (by omega) (.bind' (.mk n.Stations.length rfl (by omega) (.bind' (.eq W (.pure rfl))))))))
  obtain ⟨x, h, rfl⟩ := this
  exact h
theorem lW {s : Step} (h : P0 s) : Rd s s = some true := by
 unfold Rd Rd.J1
 rw [if_pos (by simp), if_pos (by simp), if_pos (by simp), if_pos (by simp), dU h.1, Option.bind_some]
 rw [decide_eq_true (show Alike s.Path s.Path from ⟨rfl, rfl, rfl⟩)]
theorem Uj {l : List Step} (h : StepsS l) : Rn l l = some true := by
 have O := h.1
 unfold Rn
 rw [if_neg (by simp), Mh (s0 := (0 : Int)) (fun k => (k : Int)) l.length (b := .inr ()) rfl (by omega) (fun k M => ?_) ?_]
 ·rfl
 ·unfold Rn.B2
  exact As (fun h => absurd h (by omega)) fun _ => .pure rfl
 ·unfold Rn.B2
  have G : l[k]? = some (l[k]'M) := gq _
  refine As (fun _ => .bind' (.eq (A0 G) (.bind' (.eq (A0 G) (.bind' (.eq (lW (h.2 _ (mg G))) (Ea (fun h => by cases h) fun _ => .pure ?_))))))) fun h => absurd h (by omega)
  rw [Bc (by omega)]; rfl
def Mg : List Step → Int → Int
 | [], m => m
 | s :: l, m => Mg l (if s.Kind = 5 then max (max m s.Value) (-s.Value) else m)
theorem L7 : ∀ (l : List Step) (s : Step) (m : Int), Mg (l ++ [s]) m = if s.Kind = 5 then max (max (Mg l m) s.Value) (-s.Value) else Mg l m
 | [], s, m => rfl
 | x :: l, s, m => L7 l s _
theorem uD {l : List Step} (h : StepsS l) : Oe l = some (Mg l 0) := by
 refine Hj ?_
 unfold Oe Oe.J1
 refine .bind (.forS (fun k X => X = Mg (l.take k) 0) rfl ?_ fun X h => h) ?_
 ·rintro k x _ W rfl
  have O := (h.2 x (mg W)).2
  unfold Oe.B2 Oe.J3
  rw [F3 W, L7]
  refine Ax (fun M => .pure ?_) fun M => .pure ?_
  ·have G : x.Kind = 5 := by simpa using M
   have := O G
   rw [if_pos G, Bc (by omega)]; omega
  ·have G : ¬ x.Kind = 5 := by simpa using M
   rw [if_neg G]
 ·rintro _ rfl
  rw [List.take_length]; exact .pure rfl
theorem uC {l : List Step} (h : StepsS l) : Sc l = some (Mg l 0) := by
 have X := h.1
 unfold Sc Sc.J1
 rw [Mh (s0 := ((0 : Int), (0 : Int))) (fun k => (Mg (l.take k) 0, (k : Int))) l.length (b := Mg l 0) rfl (by omega) (fun k G => ?_) ?_]
 ·rfl
 ·unfold Sc.B2
  refine As (fun h => absurd h (by dsimp only; omega)) fun _ => .pure ?_
  dsimp only
  rw [List.take_length]
 ·unfold Sc.B2 Sc.J3
  dsimp only
  have W : l[k]? = some (l[k]'G) := gq _
  generalize l[k]'G = x at W
  have M := (h.2 x (mg W)).2
  rw [F3 W, L7]
  refine As (fun _ => .bind' (.eq (A0 W) (Ax (fun O => .pure ?_) fun O => .pure ?_))) fun h => absurd h (by omega)
  ·have G : x.Kind = 5 := by simp at O; exact O.1
   have := M G
   dsimp only
   rw [if_pos G, Bc (x := (k : Int) + 1) (by omega), Bc (by omega), Int.zero_sub]; rfl
  ·have G : ¬ x.Kind = 5 := fun G => by
    have := M G
    simp [G] at O; omega
   rw [if_neg G, Bc (by omega)]; rfl
theorem Sp {s : Yg} (h : SrcOk s) {l : List Bt} (h1 : 1 ≤ l.length) (h2 : l.length ≤ 1000) : Ok (Ol s l) fun r => SrcOk r.2 := by
 unfold Ol
 exact .bind (E8 h (by omega) (by omega)) fun r G => .bind' (.ix' (by omega) (by omega) fun _ _ _ _ => .pure G.1)
theorem Zd {f : Bt} (hf : f.size ≤ 100) (n : Int) : Ok (G3 f n) fun r => r.size ≤ 200 := by
 have O : 0 ≤ IntKind.u8.wrap (wr (97 + n.tmod 26)) ∧ IntKind.u8.wrap (wr (97 + n.tmod 26)) ≤ 255 := by
  generalize wr (97 + n.tmod 26) = z
  have G : IntKind.u8.bits = 8 := rfl
  have : IntKind.u8.wrap z = z % 256 := rfl
  omega
 unfold G3
 refine .bind (Q := fun r : Bt => r.size ≤ 100) ?_ fun r M => .bind' (.cat (by omega) (.pure (by rw [ByteArray.size_append]; omega)))
 unfold Wv
 rw [if_pos (by simp only [List.all_cons, List.all_nil, Bool.and_true, decide_eq_true_eq]; omega)]
 exact ⟨_, rfl, by simp [ByteArray.size]⟩
structure Odd12 (n m : Network) : Prop where
 nodes : 1 ≤ m.Nodes.length ∧ m.Nodes.length ≤ 100
 segs : m.Segments.length = n.Segments.length
 ports : m.Ports.length = n.Ports.length
 sts : m.Stations.length ≤ n.Stations.length + 1
 pts : ∀ (k : Nat) (s : Sg), m.Segments[k]? = some s → s.Points.length ≤ 100
structure Few12 (n : Network) : Prop where
 nodes : 1 ≤ n.Nodes.length ∧ n.Nodes.length ≤ 20
 segs : 1 ≤ n.Segments.length ∧ n.Segments.length ≤ 100
 ports : n.Ports.length ≤ 100
 sts : n.Stations.length ≤ 100
 pts : ∀ (k : Nat) (s : Sg), n.Segments[k]? = some s → s.Points.length ≤ 100
theorem Odd12.sane {n m : Nw} (h : Odd12 n m) (G : Few12 n) : Sane m := by
 have O := h.nodes; have W := h.segs; have X := h.ports; have Y := h.sts; have Z := G.segs; have h6 := G.ports; have h7 := G.sts
 exact ⟨by omega, by omega, by omega, by omega, fun k s M => by have := h.pts k s M; omega⟩
theorem Few12.sane {n : Nw} (G : Few12 n) : Sane n := by
 have O := G.nodes; have W := G.segs; have X := G.ports; have Y := G.sts
 exact ⟨by omega, by omega, by omega, by omega, fun k s M => by have := G.pts k s M; omega⟩
structure WrongR (n m : Network) : Prop where
 odd : Odd12 n m
 seg : ∃ (i : Nat) (x y : Sg), n.Segments[i]? = some x ∧ m.Segments = n.Segments.set i y ∧ y.To = x.To ∧ (y.From = x.From ∨ m.Ports = n.Ports) ∧ (m.Nodes.length = n.Nodes.length ∨ (y.From = x.From ∧ m.Ports = n.Ports ∧ m.Stations = n.Stations))
theorem eH {s : Yg} (hs : SrcOk s) {n : Nw} (hn : Few12 n) : Ok (Xr s n) fun r => WrongR n r.1 ∧ SrcOk r.2 := by
 have X := hn.nodes; have hn2 := hn.segs; have hn3 := hn.ports; have hn4 := hn.sts
 unfold Xr
 refine .bind' (.app (by simp; omega) (.bind' (.app (by simp; omega) (.bind' (.app (by simp; omega) (.bind' (.app (by simp; omega) ?_)))))))
 simp only [List.nil_append]
 refine .bind (E8 hs (by omega) (by omega)) fun k hk => .bind' (.ix' (by omega) (by omega) fun i x hi hx => ?_)
 have hil := (gs hx).1
 have Z := hn.pts i x hx
 refine .bind' (.app (by simp; omega) ?_)
 simp only [List.nil_append]
 refine .bind (E8 hk.1 (by decide) (by decide)) fun c W => ?_
 have O : ∀ (a : Li) (b : Int) (no : List Bt) (po : List Port) (st : List Sn) (va se f ca re wa : Int) (pt : List Point), SrcOk ⟨a, b⟩ → (1 ≤ no.length ∧ no.length ≤ 100) → po.length = n.Ports.length → st.length ≤ n.Stations.length + 1 → pt.length ≤ 100 → (f = x.From ∨ po = n.Ports) → (no.length = n.Nodes.length ∨ (f = x.From ∧ po = n.Ports ∧ st = n.Stations)) →
   Ok (Xr.J1 n.Segments (i, x) (a, b, no, po, st, va, se, f, ca, re, wa, pt)) fun r => WrongR n r.1 ∧ SrcOk r.2 := by
  intro a b no po st va se f ca re wa pt h1 h2 h3 h4 h5 h6 h7
  unfold Xr.J1
  refine .pure ⟨⟨⟨h2, by simp, h3, h4, fun q z hz => ?_⟩, i, x, _, hx, rfl, rfl, h6, h7⟩, h1⟩
  dsimp only at hz
  rw [List.getElem?_set] at hz
  split at hz
  ·cases hz; exact h5
  ·exact hn.pts q z hz
 have G := fun (a : Yg) (M : SrcOk a) (va se f ca re wa : Int) => O a.L_ a.At n.Nodes n.Ports n.Stations va se f ca re wa x.Points M ⟨X.1, by omega⟩ rfl (by omega) Z (.inr rfl) (.inl rfl)
 refine Ax (fun _ => ?_) fun _ => Ax (fun _ => ?_) fun _ => Ax (fun _ => ?_) fun _ => Ax (fun _ => ?_) fun _ => Ax (fun _ => ?_) fun _ => Ax (fun _ => ?_) fun _ => Ax (fun _ => ?_) fun _ => Ax (fun _ => ?_) fun _ => Ax (fun _ => ?_) fun _ => Ax (fun _ => ?_) fun _ => Ax (fun _ => ?_) fun _ => ?_
 ·exact .bind (E8 W.1 (by omega) (by omega)) fun a M => .bind (Sp M.1 (by simp) (by simp)) fun b Y => .bind' (.ix' (by omega) (by omega) fun _ _ _ _ => O _ _ _ _ _ _ _ _ _ _ _ _ Y ⟨by simp; omega, by simp; omega⟩ rfl (by omega) Z (.inl rfl) (.inl (by simp)))
 ·exact .bind (C5 W.1 (by simp) (by simp)) fun a M => G a.2 M.1 _ _ _ _ _ _
 ·exact .bind (C5 W.1 (by simp) (by simp)) fun a M => G a.2 M.1 _ _ _ _ _ _
 ·exact .bind (C5 W.1 (by simp) (by simp)) fun a M => G a.2 M.1 _ _ _ _ _ _
 ·exact .bind (C5 W.1 (by simp) (by simp)) fun a M => G a.2 M.1 _ _ _ _ _ _
 ·exact As (fun hp => .bind (E8 W.1 (by omega) (by omega)) fun a M => .bind (C5 M.1 (by simp) (by simp)) fun b Y => .bind' (.ix' (by omega) (by omega) fun _ _ _ _ => O _ _ _ _ _ _ _ _ _ _ _ _ Y.1 ⟨X.1, by omega⟩ rfl (by omega) (by simp; omega) (.inl rfl) (.inl rfl))) fun _ => G c.2 W.1 _ _ _ _ _ _
 ·have hw : wr ((x.Points.length : Int) + 1) = (x.Points.length : Int) + 1 := Bc (by omega)
  rw [hw]
  refine .bind (E8 W.1 (by omega) (by omega)) fun a M => ?_
  obtain ⟨j, hj⟩ := E2 M.2.1
  exact .bind' (.sub 0 j rfl hj (Nat.zero_le _) (by omega) (O _ _ _ _ _ _ _ _ _ _ _ _ M.1 ⟨X.1, by omega⟩ rfl (by omega) (by simp; omega) (.inl rfl) (.inl rfl)))
 ·exact As (fun hp => .bind (E8 W.1 (by omega) (by omega)) fun a M => .bind (C5 M.1 (by simp) (by simp)) fun b Y => .bind' (.ix' (by omega) (by omega) fun _ _ _ _ => O _ _ _ _ _ _ _ _ _ _ _ _ Y.1 ⟨X.1, by omega⟩ rfl (by omega) (by simp; omega) (.inl rfl) (.inl rfl))) fun _ => G c.2 W.1 _ _ _ _ _ _
 ·exact As (fun hp => .bind (E8 W.1 (by omega) (by omega)) fun a M => .bind (Sp M.1 (by simp) (by simp)) fun b Y => .bind (C5 Y (by simp) (by simp)) fun d hd => .bind (C5 hd.1 (by simp) (by simp)) fun e he => .bind' (.ix' (by omega) (by omega) fun _ _ _ _ => O _ _ _ _ _ _ _ _ _ _ _ _ he.1 ⟨X.1, by omega⟩ (by simp) (by omega) Z (.inl rfl) (.inl rfl))) fun _ => G c.2 W.1 _ _ _ _ _ _
 ·exact .bind (Sp W.1 (by simp) (by simp)) fun b Y => .bind (C5 Y (by simp) (by simp)) fun d hd => .bind (C5 hd.1 (by simp) (by simp)) fun e he => .bind (C5 he.1 (by simp) (by simp)) fun g hg => .bind (C5 hg.1 (by simp) (by simp)) fun z hz => .bind' (.app (by simp; omega) (O _ _ _ _ _ _ _ _ _ _ _ _ hz.1 ⟨X.1, by omega⟩ rfl (by simp) Z (.inl rfl) (.inl rfl)))
 ·exact .bind (C5 W.1 (by simp) (by simp)) fun a M => .bind (C5 M.1 (by simp) (by simp)) fun b Y => G b.2 Y.1 _ _ _ _ _ _
 ·refine .bind (Q := fun d : Li × Int × (List Bt) × (List Port) × (List Sn) × Int × Int × Int × Int × Int × Int × (List Point) => ∃ (a : Li) (b : Int) (no : List Bt) (va se ca re wa : Int), d = (a, b, no, n.Ports, n.Stations, va, se, x.From, ca, re, wa, x.Points) ∧ SrcOk ⟨a, b⟩ ∧ 1 ≤ no.length ∧ no.length ≤ 100) ?_ ?_
  ·refine .loop (fun st : Li × Int × List Bt => SrcOk ⟨st.1, st.2.1⟩ ∧ 1 ≤ st.2.2.length ∧ st.2.2.length ≤ 25) (fun st => 100 - st.2.2.length) ⟨W.1, X.1, by dsimp only; omega⟩ (by dsimp only; omega) ?_
   rintro ⟨a, b, no⟩ ⟨h1, h2, h3⟩
   dsimp only at h1 h2 h3
   unfold Xr.B2
   dsimp only
   refine .bind (E8 (s := ⟨a, b⟩) h1 (by decide) (by decide)) fun e he => ?_
   rw [Bc (x := 23 + e.1) (by omega)]
   refine As (fun hh => .bind (Zd (by decide) _) fun y hy => .bind (Zd (by decide) _) fun z hz => .bind' (.cat (by omega) (.bind' (.app (by simp; omega) (.pure ⟨⟨he.1, by simp, by simp; omega⟩, by simp; omega⟩))))) fun hh => .pure ⟨_, _, _, _, _, _, _, _, rfl, he.1, h2, by omega⟩
  ·rintro _ ⟨a, b, no, va, se, ca, re, wa, rfl, h1, h2, h3⟩
   exact O _ _ _ _ _ _ _ _ _ _ _ _ h1 ⟨h2, h3⟩ rfl (by omega) Z (.inl rfl) (.inr ⟨rfl, rfl, rfl⟩)
end Go.Proofs.YtmaamhgjeampmaaGreat
