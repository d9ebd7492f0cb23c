/- Plain proofs. No condition. -/
import Derived.Test.YtodeekicjiengaaGreatDoorYwP1
import Derived.Test.YtodeekicjiengaaGreatDoorYwP0
import Derived.Test.YtodeekicjiengaaGreatDoorYwD
import Derived.KernelRfl
set_option maxRecDepth 100000
namespace Go.Proofs.YtodeekicjiengaaGreatDoor
set_option linter.unusedVariables false
set_option linter.unusedSimpArgs false
open Go.Aw
def bF (n : Nw) (b : List Batch) (pr : List Product) (f : List (List Piece)) (p : Plan) (K : List Bool) (N : List Bounds) (i : Nat) (s : Sg) (r : Int) (lv : List Level) : Prop :=
 ∃ (v : Nat) (G c : Bounds) (O : List Piece), (Bn s r).1 = (v : Int) ∧ K[v]? = some true ∧ N[v]? = some G ∧ bZ n p (v : Int) G c ∧ f[i]? = some O ∧ F7 s O b pr r c = some (lv, 0)
structure JJ (n : Network) (b : List Batch) (pr : List Product) (f : List (List Piece)) (p : Plan) (P D : Nat → Prop) (K : List Bool) (N : List Bounds) (S : List (List Level)) : Prop where
 nodes : ∀ w : Nat, w < n.Nodes.length → ∃ k c, K[w]? = some k ∧ N[w]? = some c ∧ Mn (Come n p S P D (w : Int)) k c
 segs : ∀ i s r, Flw n p i s r → D i → ∃ lv, S[i]? = some lv ∧ 2 ≤ lv.length ∧ bF n b pr f p K N i s r lv
 segs0 : ∀ i lv, (∀ s r, Flw n p i s r → ¬ D i) → S[i]? = some lv → lv = []
theorem JJ.congr {n : Nw} {b : List Batch} {pr : List Product} {f : List (List Piece)} {p : Plan} {P D P' D' : Nat → Prop} {K : List Bool} {N : List Bounds} {S : List (List Level)} (h : JJ n b pr f p P D K N S)
  (hP : ∀ i q, n.Ports[i]? = some q → (P i ↔ P' i)) (O : ∀ i s r, Flw n p i s r → (D i ↔ D' i)) : JJ n b pr f p P' D' K N S := by
 refine ⟨fun w hw => ?_, fun i s r G Y => h.segs i s r G ((O i s r G).2 Y), fun i lv hn hl => h.segs0 i lv (fun s r G Y => hn s r G ((O i s r G).1 Y)) hl⟩
 obtain ⟨k, c, Z, h2, h3⟩ := h.nodes w hw
 exact ⟨k, c, Z, h2, h3.congr fun d => (Come.congr hP O).symm⟩
section
variable {n : Nw} {b : List Batch} {pr : List Product} {f : List (List Piece)} {p : Plan} {K : List Bool} {N : List Bounds} {S : List (List Level)}
theorem bK {α : Type} {l : List α} {v w : Nat} {x y : α} (h : l[w]? = some y) : (l.set v x)[w]? = some (if v = w then x else y) := by
 have G := (gs h).1
 by_cases e : v = w
 ·subst e; rw [List.getElem?_set_self G, if_pos rfl]
 ·rw [List.getElem?_set_ne e, h, if_neg e]
theorem R5 {C C' : Nat → Bounds → Prop} {v : Nat} {k : Bool} {Y c : Bounds} {m : Nat} (h : ∀ w : Nat, w < m → ∃ k c, K[w]? = some k ∧ N[w]? = some c ∧ Mn (C w) k c) (hk : K[v]? = some k) (hb : N[v]? = some Y)
  (hC : ∀ w d, C' w d ↔ C w d ∨ (w = v ∧ d = c)) : ∀ w : Nat, w < m → ∃ k' c', (K.set v true)[w]? = some k' ∧ (N.set v (oH k Y c))[w]? = some c' ∧ Mn (C' w) k' c' := by
 intro w hw
 obtain ⟨k1, c1, G, O, Z⟩ := h w hw
 refine ⟨_, _, bK G, bK O, ?_⟩
 by_cases e : v = w
 ·subst e
  rw [hk] at G; rw [hb] at O
  cases G; cases O
  simp only [if_pos]
  exact Z.add fun d => by rw [hC]; simp
 ·simp only [if_neg e]
  exact Z.congr fun d => by rw [hC]; simp; intro h; exact absurd h.symm e
theorem cU {P D : Nat → Prop} {v : Int} {k : Nat} {q : Port} {x : Int} (hq : n.Ports[k]? = some q) (hx : p.Ports[k]? = some x) (w : Int) (d : Bounds) :
  Come n p S (fun i => P i ∨ (i < k + 1 ∧ ∃ q : Port, n.Ports[i]? = some q ∧ q.Node = v)) D w d ↔
   Come n p S (fun i => P i ∨ (i < k ∧ ∃ q : Port, n.Ports[i]? = some q ∧ q.Node = v)) D w d ∨ (q.Node = v ∧ 0 < x ∧ w = v ∧ d = ⟨q.Pressure, q.Pressure⟩) := by
 unfold Come
 constructor
 ·rintro (⟨i, q1, x1, G, Y, h3, h4, h5, h6⟩ | h)
  ·rcases G with G | ⟨G, q2, Z, O⟩
   ·exact .inl (.inl ⟨i, q1, x1, .inl G, Y, h3, h4, h5, h6⟩)
   ·by_cases hik : i = k
    ·subst hik
     rw [hq] at Y Z; cases Y; cases Z
     rw [hx] at h3; cases h3
     exact .inr ⟨O, h4, by rw [← h5, O], h6⟩
    ·exact .inl (.inl ⟨i, q1, x1, .inr ⟨by omega, q2, Z, O⟩, Y, h3, h4, h5, h6⟩)
  ·exact .inl (.inr h)
 ·rintro ((⟨i, q1, x1, G, Y⟩ | h) | ⟨G, Y, h3, h4⟩)
  ·refine .inl ⟨i, q1, x1, ?_, Y⟩
   rcases G with G | ⟨G, O⟩
   ·exact .inl G
   ·exact .inr ⟨by omega, O⟩
  ·exact .inr h
  ·exact .inl ⟨k, q, x, .inr ⟨by omega, q, hq, G⟩, hq, hx, Y, by rw [G, h3], h4⟩
theorem lJ {P D : Nat → Prop} {k : Nat} {s : Sg} {r : Int} {lv : List Level} (hf : Flw n p k s r) (hD : ¬ D k) (hk : k < S.length) (w : Int) (d : Bounds) :
  Come n p (S.set k lv) P (fun i => D i ∨ i = k) w d ↔ Come n p S P D w d ∨ (w = (Bn s r).2 ∧ d = Ik r lv) := by
 unfold Come
 constructor
 ·rintro (h | ⟨i, s1, r1, Z, O, Y, h3, h4, h5⟩)
  ·exact .inl (.inl h)
  ·by_cases G : i = k
   ·subst G
    have e1 := Y.seg; have e2 := Y.rate
    rw [hf.seg] at e1; cases e1
    rw [hf.rate] at e2; cases e2
    rw [List.getElem?_set_self hk] at h4; cases h4
    exact .inr ⟨h3.symm, h5⟩
   ·rw [List.getElem?_set_ne (fun h => G h.symm)] at h4
    rcases O with O | O
    ·exact .inl (.inr ⟨i, s1, r1, Z, O, Y, h3, h4, h5⟩)
    ·exact absurd O G
 ·rintro ((h | ⟨i, s1, r1, Z, O, Y, h3, h4, h5⟩) | ⟨O, Y⟩)
  ·exact .inl h
  ·have G : i ≠ k := fun h => hD (h ▸ O)
   exact .inr ⟨i, s1, r1, Z, .inl O, Y, h3, by rw [List.getElem?_set_ne (fun h => G h.symm)]; exact h4, h5⟩
  ·exact .inr ⟨k, s, r, lv, .inr rfl, hf, O.symm, List.getElem?_set_self hk, Y⟩
def PD (n : Nw) (done : Li) (i : Nat) : Prop := ∃ q : Port, n.Ports[i]? = some q ∧ q.Node ∈ done
def DD (n : Nw) (p : Plan) (done : Li) (i : Nat) : Prop := ∃ s r, Flw n p i s r ∧ (Bn s r).1 ∈ done
theorem Gj (G : NetOk n) {i : Nat} {s : Sg} {r : Int} (hf : Flw n p i s r) : ∃ a c : Nat, (Bn s r).1 = (a : Int) ∧ (Bn s r).2 = (c : Int) ∧ a < n.Nodes.length ∧ c < n.Nodes.length ∧ a ≠ c := by
 have O := (G.segs i s hf.seg).ends
 rcases Kn (s := s) hf.ne with ⟨h, _⟩ | ⟨h, _⟩ <;> rw [h] <;> dsimp only
 ·exact ⟨s.To.toNat, s.From.toNat, by omega, by omega, by omega, by omega, by omega⟩
 ·exact ⟨s.From.toNat, s.To.toNat, by omega, by omega, by omega, by omega, by omega⟩
theorem dA {B : Int} {v : Nat} {done : Li} (hw : W21 n b pr f) (hp : FlowOk n p) (h : Inv n B K N S) (hB : 100000000 ≤ B ∧ B ≤ 900000000000000) (hv : v < n.Nodes.length)
  (hj : JJ n b pr f p (PD n done) (DD n p done) K N S) (hnd : (v : Int) ∉ done)
  (hin : ∀ i s r, Flw n p i s r → (Bn s r).2 = (v : Int) → (Bn s r).1 ∈ done)
  (hout : ∀ i s r, Flw n p i s r → (Bn s r).1 = (v : Int) → (Bn s r).2 ∉ done) :
  Ok (P7 (Hr n b pr f p K N S) (v : Int)) fun r => r.1 = 0 ∧ ∃ K' N' S', r.2 = Hr n b pr f p K' N' S' ∧ Inv n (B + 50000000000) K' N' S' ∧ JJ n b pr f p (PD n (done ++ [(v : Int)])) (DD n p (done ++ [(v : Int)])) K' N' S' := by
 have hn := hw.net
 have hs1 := hn.segs1; have hrl := hp.rl; have hpl := hp.pl; have hps := hn.ports1; have hfl := hw.fills.len
 let P := PD n done
 let AV : Nat → Prop := fun i => ∃ q : Port, n.Ports[i]? = some q ∧ q.Node = (v : Int)
 have hP' : ∀ i q, n.Ports[i]? = some q → (PD n (done ++ [(v : Int)]) i ↔ P i ∨ AV i) := by
  intro i q hq
  simp only [PD, P, AV, List.mem_append, List.mem_singleton]
  constructor
  ·rintro ⟨q', h1, h2 | h2⟩
   ·exact .inl ⟨q', h1, h2⟩
   ·exact .inr ⟨q', h1, h2⟩
  ·rintro (⟨q', h1, h2⟩ | ⟨q', h1, h2⟩)
   ·exact ⟨q', h1, .inl h2⟩
   ·exact ⟨q', h1, .inr h2⟩
 have keepP : ∀ K N, JJ n b pr f p (fun i => P i ∨ (i < 0 ∧ AV i)) (DD n p done) K N S → True := fun _ _ _ => trivial
 unfold P7
 refine .bind (Q := fun st : ST => ∃ K' N', st = pk n b pr f p K' N' S ∧ Inv n B K' N' S ∧ JJ n b pr f p (PD n (done ++ [(v : Int)])) (DD n p done) K' N' S)
  (.forS (fun k (st : ST) => ∃ K' N', st = pk n b pr f p K' N' S ∧ Inv n B K' N' S ∧ JJ n b pr f p (fun i => P i ∨ (i < k ∧ AV i)) (DD n p done) K' N' S) ⟨K, N, rfl, h, hj.congr (fun i q hq => by simp [P]) (fun _ _ _ _ => Iff.rfl)⟩ ?_ ?_) ?_
 ·rintro k q _ hq ⟨K, N, rfl, hI, hJ⟩
  simp only [Hr] at hq
  have hk := (gs hq).1
  have hpo := hn.ports k q hq
  have hx : p.Ports[k]? = some (p.Ports[k]'(by omega)) := gq _
  have hstep := fun S w d => cU (n := n) (p := p) (S := S) (P := P) (D := DD n p done) (v := (v : Int)) hq hx w d
  have no : (¬ (q.Node = (v : Int) ∧ 0 < p.Ports[k]'(by omega))) → Ok (P7.J8 (v : Int) q (pk n b pr f p K N S) false) fun st : ST => ∃ K' N', st = pk n b pr f p K' N' S ∧ Inv n B K' N' S ∧ JJ n b pr f p (fun i => P i ∨ (i < k + 1 ∧ AV i)) (DD n p done) K' N' S := by
   intro hnn
   unfold P7.J8 P7.J7
   refine Bc (fun h => by cases h) fun _ => .pure ⟨K, N, rfl, hI, fun w hw => ?_, hJ.segs, hJ.segs0⟩
   obtain ⟨k1, c1, h1, h2, h3⟩ := hJ.nodes w hw
   exact ⟨k1, c1, h1, h2, h3.congr fun d => by rw [hstep]; exact ⟨fun h => h.elim id fun h => absurd ⟨h.1, h.2.1⟩ hnn, .inl⟩⟩
  unfold P7.B6
  refine C6 (fun hnode => .bind' (.eq (Bb (l := (Hr n b pr f p K N S).p.Ports) hx) ?_)) fun hnode => no fun h => hnode h.1
  dsimp only at hnode ⊢
  cases hd : decide (p.Ports[k]'(by omega) > 0) with
  | false => exact no fun h => by have := of_decide_eq_false hd; omega
  | true =>
   have hpos : 0 < p.Ports[k]'(by omega) := of_decide_eq_true hd
   obtain ⟨kb, bd, hkb, hbd, hM⟩ := hJ.nodes v hv
   have hcb : Bd B ⟨q.Pressure, q.Pressure⟩ := by
    have := hpo.pressure
    exact ⟨Int.le_refl _, by dsimp only; omega, by dsimp only; omega⟩
   unfold P7.J8
   refine Bc (fun _ => .bind' (.eq (Rw (n := n) (b := b) (pr := pr) (f := f) (p := p) (K := K) (N := N) (S := S) (c := ⟨q.Pressure, q.Pressure⟩) hkb hbd) ?_)) fun h => by cases h
   unfold P7.J7
   refine .pure ⟨K.set v true, N.set v (oH kb bd ⟨q.Pressure, q.Pressure⟩), rfl, Tp hI hkb hbd hv hcb, R5 hJ.nodes hkb hbd fun w d => ?_, ?_, hJ.segs0⟩
   ·rw [hstep]
    constructor
    ·rintro (h | ⟨_, _, h, h'⟩)
     ·exact .inl h
     ·exact .inr ⟨by omega, h'⟩
    ·rintro (h | ⟨rfl, h'⟩)
     ·exact .inl h
     ·exact .inr ⟨hnode, hpos, rfl, h'⟩
   ·intro i s r hf hdd
    obtain ⟨lv, h1, h2, a, bd', c', fi, e1, e2, e3, e4⟩ := hJ.segs i s r hf hdd
    have hav : a ≠ v := fun h => by
     subst h
     obtain ⟨s', r', G, hd'⟩ := hdd
     have O := G.seg; have Z := G.rate
     rw [hf.seg] at O; cases O
     rw [hf.rate] at Z; cases Z
     rw [e1] at hd'; exact hnd hd'
    exact ⟨lv, h1, h2, a, bd', c', fi, e1, by rw [List.getElem?_set_ne (fun h => hav h.symm)]; exact e2, by rw [List.getElem?_set_ne (fun h => hav h.symm)]; exact e3, e4⟩
 ·rintro _ ⟨K, N, rfl, hI, hJ⟩
  refine ⟨K, N, rfl, hI, hJ.congr (fun i q hq => ?_) fun _ _ _ _ => Iff.rfl⟩
  rw [hP' i q hq]
  have := (gs hq).1
  simp only [Hr]
  simp [this]
 ·rintro _ ⟨K, N, rfl, hI, hJ⟩
  obtain ⟨kb, bd, hkb, hbd, hM⟩ := hJ.nodes v hv
  unfold P7.J1
  refine .bind' (.eq (Bb (l := (Hr n b pr f p K N S).x.Known) hkb) ?_)
  let A : Nat → Prop := fun i => ∃ s r, Flw n p i s r ∧ (Bn s r).1 = (v : Int)
  have hD' : ∀ i s r, Flw n p i s r → (DD n p (done ++ [(v : Int)]) i ↔ DD n p done i ∨ A i) := by
   intro i s r hf
   simp only [DD, A, List.mem_append, List.mem_singleton]
   constructor
   ·rintro ⟨s', r', h1, h2 | h2⟩
    ·exact .inl ⟨s', r', h1, h2⟩
    ·exact .inr ⟨s', r', h1, h2⟩
   ·rintro (⟨s', r', h1, h2⟩ | ⟨s', r', h1, h2⟩)
    ·exact ⟨s', r', h1, .inl h2⟩
    ·exact ⟨s', r', h1, .inr h2⟩
  cases kb with
  | false =>
   refine De (fun _ => .pure ⟨rfl, K, N, S, rfl, hI.mono (by omega), hJ.congr (fun _ _ _ => Iff.rfl) fun i s r hf => ?_⟩) fun h => by cases h
   rw [hD' i s r hf]
   refine ⟨.inl, fun h => h.elim id fun ⟨s', r', G, ho⟩ => ?_⟩
   have hnone : ¬ ∃ c, Come n p S (PD n (done ++ [(v : Int)])) (DD n p done) (v : Int) c := fun h => by have := hM.kn.2 h; cases this
   refine absurd ?_ hnone
   rcases Tk hn hp G ho with ⟨k, q, x, O, Z, g3, g4⟩ | ⟨j, s2, r2, O, Z⟩
   ·exact ⟨_, .inl ⟨k, q, x, ⟨q, O, by simp [g4]⟩, O, Z, g3, g4, rfl⟩⟩
   ·have hd : DD n p done j := ⟨s2, r2, O, hin j s2 r2 O Z⟩
    obtain ⟨lv, h1, _⟩ := hJ.segs j s2 r2 O hd
    exact ⟨_, .inr ⟨j, s2, r2, lv, hd, O, Z, h1, rfl⟩⟩
  | true =>
  refine De (fun h => by cases h) fun _ => ?_
  obtain ⟨c, hc1, hc, hce⟩ := dK (b := b) (pr := pr) (f := f) (node := (v : Int)) hn hp hI ⟨by omega, by omega⟩ hbd
  refine .bind' (.eq hce ?_)
  dsimp only
  refine Cl (fun h => absurd rfl h) fun _ => ?_
  refine .bind' (.forL (fun k (st : ST) => ∃ K' N' S', st = pk n b pr f p K' N' S' ∧ Inv n (B + 50000000000) K' N' S' ∧ K'[v]? = some true ∧ N'[v]? = some bd ∧ JJ n b pr f p (PD n (done ++ [(v : Int)])) (fun i => DD n p done i ∨ (i < k ∧ A i)) K' N' S') (fun _ => False) ⟨K, N, S, rfl, hI.mono (by omega), hkb, hbd, hJ.congr (fun _ _ _ => Iff.rfl) fun i s r hf => by simp⟩ ?_ ?_ fun _ h => h.elim)
  ·rintro k s _ hs ⟨K, N, S, rfl, hI, hKv, hNv, hJ⟩
   simp only [Hr] at hs
   have hk := (gs hs).1
   have hr : p.Rates[k]? = some (p.Rates[k]'(by omega)) := gq _
   have hrg := hp.rng k _ s hr hs
   have hse := hn.segs k s hs
   have hfk : f[k]? = some (f[k]'(by omega)) := gq _
   have hfo := hw.fills.all k _ s hfk hs
   have skip : ¬ A k → JJ n b pr f p (PD n (done ++ [(v : Int)])) (fun i => DD n p done i ∨ (i < k + 1 ∧ A i)) K N S := fun hA => hJ.congr (fun _ _ _ => Iff.rfl) fun i s r hf => by
    constructor
    ·rintro (h | ⟨h, h'⟩)
     ·exact .inl h
     ·exact .inr ⟨by omega, h'⟩
    ·rintro (h | ⟨h, h'⟩)
     ·exact .inl h
     ·by_cases Y : i = k
      ·subst Y; exact absurd h' hA
      ·exact .inr ⟨by omega, h'⟩
   unfold P7.B3
   refine .bind' (.eq (Bb (l := (Hr n b pr f p K N S).p.Rates) hr) ?_)
   refine Bc (fun hc0 => ?_) fun hc0 => ?_
   ·unfold P7.J4
    refine .pure ⟨K, N, S, rfl, hI, hKv, hNv, skip ?_⟩
    rintro ⟨s', r', G, ho⟩
    have O := G.seg; have Z := G.rate
    rw [hs] at O; cases O
    rw [hr] at Z; cases Z
    have := G.ne
    simp [this] at hc0
    exact hc0 ho
   ·have hr0 : p.Rates[k]'(by omega) ≠ 0 := fun h => by simp [h] at hc0
    have hfl' : Flw n p k s (p.Rates[k]'(by omega)) := ⟨hs, hr, hr0⟩
    have hfrom : (Bn s (p.Rates[k]'(by omega))).1 = (v : Int) := by simp [hr0] at hc0; exact hc0
    obtain ⟨a, t, ha, ht, hal, htl, hat⟩ := Gj hn hfl'
    have hav : a = v := by omega
    have htv : t ≠ v := by omega
    have hnDk : ¬ (DD n p done k ∨ (k < k ∧ A k)) := by
     rintro (⟨s', r', G, hd'⟩ | ⟨h, _⟩)
     ·have O := G.seg; have Z := G.rate
      rw [hs] at O; cases O
      rw [hr] at Z; cases Z
      rw [hfrom] at hd'; exact hnd hd'
     ·omega
    obtain ⟨x, hx1, hx2, hx3, hx4⟩ := Yj (r := p.Rates[k]'(by omega)) (B := B + 2000000) (b := c) (hse.g (by omega)) hfo hw.prods hw.bats ⟨hr0, hrg.1, hrg.2.1⟩ ⟨by omega, by omega⟩ hc
    refine .bind' (.eq (Bb (l := (Hr n b pr f p K N S).fills) hfk) (.bind' (.eq hx1 (Cl (fun h => absurd rfl h) fun _ => ?_))))
    have hsl := hI.sl
    obtain ⟨kt, bt, hkt, hbt, hMt⟩ := hJ.nodes t htl
    have j5 : ∀ y : Level, y ∈ x → Ik (p.Rates[k]'(by omega)) x = y.Bounds → Ok (P7.J5 k s (pk n b pr f p K N S) (k, p.Rates[k]'(by omega)) (x, 0) (y.At, y.Bounds.Low, y.Bounds.High)) (Sum.elim (fun st : ST => ∃ K' N' S', st = pk n b pr f p K' N' S' ∧ Inv n (B + 50000000000) K' N' S' ∧ K'[v]? = some true ∧ N'[v]? = some bd ∧ JJ n b pr f p (PD n (done ++ [(v : Int)])) (fun i => DD n p done i ∨ (i < k + 1 ∧ A i)) K' N' S') fun _ : Int × steady_line => False) := by
     intro y hy hye
     have hyb := (hx4 y hy).1
     unfold P7.J5
     refine .bind' (.ix k rfl (by simp only [Hr]; omega) ?_)
     have hI2 : Inv n (B + 50000000000) K N (S.set k x) := by
      refine ⟨hI.kl, hI.nl, by simp [hsl], hI.nb, fun i lv s1 hi hs1' => ?_⟩
      by_cases Y : i = k
      ·subst Y
       rw [List.getElem?_set_self (by omega)] at hi
       cases hi
       rw [hs] at hs1'; cases hs1'
       exact ⟨hx3, fun z hz => ⟨(hx4 z hz).1.mono (by omega), (hx4 z hz).2⟩⟩
      ·rw [List.getElem?_set_ne (by omega)] at hi
       exact hI.sb i lv s1 hi hs1'
     dsimp only
     rw [ht]
     refine .bind' (.eq (Rw (n := n) (b := b) (pr := pr) (f := f) (p := p) (K := K) (N := N) (S := S.set k x) (c := ⟨y.Bounds.Low, y.Bounds.High⟩) hkt hbt) ?_)
     unfold P7.J4
     refine .pure ⟨K.set t true, N.set t (oH kt bt ⟨y.Bounds.Low, y.Bounds.High⟩), S.set k x, rfl, Tp hI2 hkt hbt htl (hyb.mono (by omega)), by rw [List.getElem?_set_ne htv]; exact hKv, by rw [List.getElem?_set_ne htv]; exact hNv, ?_⟩
     have hDk : ∀ i s r, Flw n p i s r → (((DD n p done i ∨ (i < k ∧ A i)) ∨ i = k) ↔ (DD n p done i ∨ (i < k + 1 ∧ A i))) := by
      intro i s' r' G
      constructor
      ·rintro ((h | ⟨h, h'⟩) | rfl)
       ·exact .inl h
       ·exact .inr ⟨by omega, h'⟩
       ·exact .inr ⟨by omega, _, _, hfl', hfrom⟩
      ·rintro (h | ⟨h, h'⟩)
       ·exact .inl (.inl h)
       ·by_cases Y : i = k
        ·exact .inr Y
        ·exact .inl (.inr ⟨by omega, h'⟩)
     refine JJ.congr (P := PD n (done ++ [(v : Int)])) (D := fun i => (DD n p done i ∨ (i < k ∧ A i)) ∨ i = k) ⟨?_, ?_, ?_⟩ (fun _ _ _ => Iff.rfl) hDk
     ·refine R5 hJ.nodes hkt hbt fun w d => ?_
      rw [lJ hfl' hnDk (by omega), ht, hye]
      constructor
      ·rintro (h | ⟨h, h'⟩)
       ·exact .inl h
       ·exact .inr ⟨by omega, h'⟩
      ·rintro (h | ⟨h, h'⟩)
       ·exact .inl h
       ·exact .inr ⟨by omega, h'⟩
     ·intro i s' r' G hd'
      by_cases Y : i = k
      ·subst Y
       have O := G.seg; have Z := G.rate
       rw [hs] at O; cases O
       rw [hr] at Z; cases Z
       exact ⟨x, List.getElem?_set_self (by omega), hx2, v, bd, c, _, hfrom, by rw [List.getElem?_set_ne htv]; exact hKv, by rw [List.getElem?_set_ne htv]; exact hNv, hc1, hfk, hx1⟩
      ·have hd2 : DD n p done i ∨ (i < k ∧ A i) := hd'.elim id fun h => absurd h Y
       obtain ⟨lv, h1, h2, a', bd', c', fi, e1, e2, e3, e4⟩ := hJ.segs i s' r' G hd2
       have hta : t ≠ a' := by
        rintro rfl
        have hto : (Bn s (p.Rates[k]'(by omega))).2 ∉ done := hout k s _ hfl' hfrom
        rcases hd2 with ⟨s2, r2, hf2, hd3⟩ | ⟨_, s2, r2, hf2, hd3⟩
        ·have O := hf2.seg; have Z := hf2.rate
         rw [G.seg] at O; cases O
         rw [G.rate] at Z; cases Z
         rw [e1, ← ht] at hd3; exact hto hd3
        ·have O := hf2.seg; have Z := hf2.rate
         rw [G.seg] at O; cases O
         rw [G.rate] at Z; cases Z
         rw [e1] at hd3; omega
       exact ⟨lv, by rw [List.getElem?_set_ne (fun h => Y h.symm)]; exact h1, h2, a', bd', c', fi, e1, by rw [List.getElem?_set_ne hta]; exact e2, by rw [List.getElem?_set_ne hta]; exact e3, e4⟩
     ·intro i lv hn' hl
      have Y : i ≠ k := by
       rintro rfl
       exact hn' s _ hfl' (.inr rfl)
      rw [List.getElem?_set_ne (fun h => Y h.symm)] at hl
      exact hJ.segs0 i lv (fun s' r' G hd' => hn' s' r' G (.inl hd')) hl
    have h0 : x[0]? = some (x[0]'(by omega)) := gq _
    have hl : x[x.length - 1]? = some (x[x.length - 1]'(by omega)) := gq _
    have h0' : ix x 0 = some (0, x[0]'(by omega)) := Bb h0
    dsimp only
    rw [h0']
    refine .bind' (.pure (A7 (fun hpos => ?_) fun hneg => j5 _ (mg h0) (by unfold Ik; rw [if_neg (by omega), h0]; rfl)))
    rw [Av (by omega), show (x.length : Int) - 1 = ((x.length - 1 : Nat) : Int) by omega, Bb hl]
    exact .bind' (.pure (j5 _ (mg hl) (by unfold Ik; rw [if_pos (by omega), hl]; rfl)))
  ·rintro _ ⟨K', N', S', rfl, hI', _, _, hJ'⟩
   simp only [Sum.elim_inl]
   unfold P7.J2
   refine .pure ⟨rfl, K', N', S', rfl, hI', hJ'.congr (fun _ _ _ => Iff.rfl) fun i s r hf => ?_⟩
   rw [hD' i s r hf]
   have hil := (gs hf.seg).1
   exact ⟨fun h => h.imp id fun h => h.2, fun h => h.imp id fun h => ⟨hil, h⟩⟩
end
structure Sol (n : Network) (b : List Batch) (pr : List Product) (f : List (List Piece)) (p : Plan) (x : Pressures) : Prop where
 inv : Inv n 400000000000 x.Known x.Nodes x.Segments
 nodes : ∀ w : Nat, w < n.Nodes.length → ∃ k c, x.Known[w]? = some k ∧ x.Nodes[w]? = some c ∧ Mn (Come n p x.Segments (fun _ => True) (fun _ => True) (w : Int)) k c
 segs : ∀ i s r, Flw n p i s r → ∃ lv, x.Segments[i]? = some lv ∧ 2 ≤ lv.length ∧ bF n b pr f p x.Known x.Nodes i s r lv
 segs0 : ∀ (i : Nat) (lv : List Level), p.Rates[i]? = some 0 → x.Segments[i]? = some lv → lv = []
theorem H6 {n : Nw} {b : List Batch} {pr : List Product} {f : List (List Piece)} {p : Plan} (Z : W21 n b pr f) (hp : FlowOk n p) :
  ∃ x, Ff n b pr f p = some (x, 0) ∧ Sol n b pr f p x := by
 have hn := Z.net
 have hn1 := hn.nodes; have hs1 := hn.segs1
 have : Ok (Ff n b pr f p) fun r => r.2 = 0 ∧ Sol n b pr f p r.1 := by
  obtain ⟨G, ho, hT, ac⟩ := R4 hn hp
  have eo : Ve n p = some (G, 0) := by
   unfold Ve
   rw [R9 hn hp, ho]; rfl
  have hol : G.length ≤ 6 := by
   have := hT.nodup.length_le_of_subset (l₂ := (List.range n.Nodes.length).map fun v : Nat => (v : Int)) fun v hv => by
    have := hT.rng v hv
    exact List.mem_map.2 ⟨v.toNat, List.mem_range.2 (by omega), by omega⟩
   simp at this; omega
  unfold Ff
  refine .bind' (.eq eo (Cl (fun h => absurd rfl h) fun _ => .bind' (.eq (mS Z) (Cl (fun h => absurd rfl h) fun _ => .bind' (.eq (Kj Z.prods) (Cl (fun h => absurd rfl h) fun _ => ?_))))))
  refine .bind' (.forL (fun _ _ => True) (fun _ => False) trivial ?_ ?_ fun _ h => h.elim)
  ·intro k x _ hx _
   have hk := (gs hx).1
   have hs : n.Segments[k]? = some (n.Segments[k]'(by have := Z.fills.len; omega)) := gq _
   have O := Z.fills.all k x _ hx hs
   unfold Ff.B5
   rw [Hc (fun j y hy => by
    unfold Vp
    rw [lX Z.bats (O.bat y (mg hy))]; rfl)]
   exact .bind' (.pure (Bc (fun h => by cases h) fun _ => .pure trivial))
  ·intro _ _
   simp only [Sum.elim_inl]
   unfold Ff.J1
   refine .bind' (.mk n.Nodes.length rfl (by omega) (.bind' (.mk n.Nodes.length rfl (by omega) (.bind' (.mk n.Segments.length rfl (by omega) ?_)))))
   unfold Ff.J2
   refine .bind' (.forI (fun k (st : ST) => ∃ K N S, st = pk n b pr f p K N S ∧ Inv n (100000000 + 50000000000 * (k : Int)) K N S ∧ JJ n b pr f p (PD n (G.take k)) (DD n p (G.take k)) K N S) (fun _ => False) ⟨_, _, _, rfl, ?_, ?_⟩ ?_ ?_ fun _ h => h.elim)
   ·refine ⟨by simp, by simp, by simp, fun c hc => ?_, fun i lv s hi hs => ?_⟩
    ·have := List.eq_of_mem_replicate hc
     subst this
     exact ⟨Int.le_refl _, by dsimp only; omega, by dsimp only; omega⟩
    ·rw [List.getElem?_replicate] at hi
     split at hi
     ·cases hi; exact ⟨by simp, by simp⟩
     ·cases hi
   ·refine ⟨fun w Z => ⟨false, ⟨0, 0⟩, by simp [Z], by simp [Z], ⟨?_, fun _ => rfl, (fun h => by cases h), (fun h => by cases h), (fun h => by cases h)⟩⟩, ?_, fun i lv _ hl => ?_⟩
    ·simp [Come, PD, DD]
    ·rintro i s r _ ⟨s', r', _, h⟩
     simp at h
    ·rw [List.getElem?_replicate] at hl
     split at hl
     ·cases hl; rfl
     ·cases hl
   ·rintro k _ hk ⟨K, N, S, rfl, hI, hJ⟩
    dsimp only at hk
    have hg : G[k]? = some (G[k]'hk) := gq _
    have hv := hT.rng _ (mg hg)
    obtain ⟨v, hve⟩ := Hw hv.1
    rw [hve] at hg hv
    have hnd : (v : Int) ∉ G.take k := fun hm => by
     obtain ⟨j, Y⟩ := List.getElem?_of_mem hm
     rw [List.getElem?_take] at Y
     split at Y
     ·rename_i hjk
      have hjl := (gs Y).1
      have := (List.getElem?_inj hjl hT.nodup).1 (Y.trans hg.symm)
      omega
     ·cases Y
    have hin : ∀ i s r, Flw n p i s r → (Bn s r).2 = (v : Int) → (Bn s r).1 ∈ G.take k := hT.topo k _ hg
    have hout : ∀ i s r, Flw n p i s r → (Bn s r).1 = (v : Int) → (Bn s r).2 ∉ G.take k := by
     intro i s r O ho hm
     obtain ⟨j, Y⟩ := List.getElem?_of_mem hm
     rw [List.getElem?_take] at Y
     split at Y
     ·rename_i hjk
      have := hT.topo j _ Y i s r O rfl
      rw [ho] at this
      exact hnd ((List.take_subset_take_left G (by omega)) this)
     ·cases Y
    unfold Ff.B4
    refine .bind' (.eq (Bb (l := (G, (0 : Int)).1) hg) (.bind (dA (n := n) (b := b) (pr := pr) (f := f) (p := p) (K := K) (N := N) (S := S) Z hp hI (by omega) (by omega) hJ hnd hin hout) ?_))
    rintro ⟨e, l'⟩ ⟨he, K', N', S', hl', hI', hJ'⟩
    dsimp only at he hl'
    subst he hl'
    refine Cl (fun h => absurd rfl h) fun _ => .pure ⟨K', N', S', rfl, hI'.mono (by omega), ?_⟩
    rw [List.take_add_one, hg]; exact hJ'
   ·rintro _ ⟨K, N, S, rfl, hI, hJ⟩
    simp only [Sum.elim_inl]
    unfold Ff.J3
    have aa : ∀ w, 0 ≤ w → w < (n.Nodes.length : Int) → w ∈ G.take G.length := fun w h0 h1 => by
     rw [List.take_length]
     have := ac w.toNat (by omega)
     rwa [show ((w.toNat : Nat) : Int) = w by omega] at this
    have hD : ∀ i s r, Flw n p i s r → DD n p (G.take G.length) i := fun i s r O => by
     obtain ⟨a, c, h1, h2, h3, h4, _⟩ := Gj hn O
     exact ⟨s, r, O, aa _ (by omega) (by omega)⟩
    have ab : JJ n b pr f p (fun _ => True) (fun _ => True) K N S := hJ.congr (fun i q hq => by
     have := (hn.ports i q hq).node
     simp only [iff_true]
     exact ⟨q, hq, aa _ (by omega) (by omega)⟩) fun i s r O => by simp only [iff_true]; exact hD i s r O
    refine .pure ⟨rfl, hI.mono (by dsimp only; omega), ab.nodes, fun i s r O => ab.segs i s r O trivial, fun i lv h0 hl => ab.segs0 i lv (fun s r O => ?_) hl⟩
    have := O.rate
    rw [h0] at this
    exact absurd (Option.some.inj this).symm O.ne
 obtain ⟨⟨x, e⟩, h, h1, h2⟩ := this
 dsimp only at h1 h2
 subst h1
 exact ⟨x, h, h2⟩
theorem Xv {n : Nw} {b : List Batch} {pr : List Product} {f : List (List Piece)} {p : Plan} (Y : W21 n b pr f) (G : FlowOk n p) : ∃ x, Ff n b pr f p = some (x, 0) ∧ Inv n 400000000000 x.Known x.Nodes x.Segments := by
 obtain ⟨x, h, O⟩ := H6 Y G
 exact ⟨x, h, O.inv⟩
theorem Sw {s : Li} {v : Int} :
  Ok (P9 s v) fun r => (r = -1 ∧ ∀ (j : Nat) (y : Int), s[j]? = some y → (v == y) = false) ∨ ∃ (k : Nat) (y : Int), r = (k : Int) ∧ s[k]? = some y ∧ (v == y) = true ∧ ∀ (j : Nat) (y : Int), j < k → s[j]? = some y → (v == y) = false := by
 unfold P9
 refine .bind' (.forL (fun k _ => ∀ (j : Nat) (y : Int), j < k → s[j]? = some y → (v == y) = false) (fun r => ∃ (k : Nat) (y : Int), r = (k : Int) ∧ s[k]? = some y ∧ (v == y) = true ∧ ∀ (j : Nat) (y : Int), j < k → s[j]? = some y → (v == y) = false) (fun j y h => absurd h (Nat.not_lt_zero _)) ?_ ?_ ?_)
 ·intro k x _ Y hi
  unfold P9.B2
  refine Bc (fun O => .pure ⟨k, x, rfl, Y, O, hi⟩) fun O => .pure fun j y hj G => ?_
  by_cases h : j < k
  ·exact hi j y h G
  ·have : j = k := by omega
   subst this
   rw [Y] at G; simp at G; subst G; exact O
 ·intro _ hi
  simp only [Sum.elim_inl]
  unfold P9.J1
  exact .pure (.inl ⟨rfl, fun j y G => hi j y (gs G).1 G⟩)
 ·intro b Z
  exact .pure (.inr Z)
theorem lI : Ok Qi fun r => Uni 24 r.l 0 fun x => x := by
 unfold Qi
 refine .bind (.forJ (fun k (G : Arr Int 24) => ∀ j : Nat, j < k → G.l[j]? = some (j : Int)) (fun j Z => absurd Z (Nat.not_lt_zero _)) ?_ fun G h => h) fun G h => ?_
 ·intro k G Y hi
  unfold Qi.B2
  refine .bind' (.ix k rfl (by rw [G.h]; exact Y) (.pure fun j Z => ?_))
  show (G.l.set k (k : Int))[j]? = _
  rw [G3]
  split
  ·rename_i h; rw [h.1]
  ·rename_i h
   refine hi j ?_
   have := G.h
   by_cases O : k = j
   ·exact absurd ⟨O, by omega⟩ h
   ·omega
 ·unfold Qi.J1
  exact .pure ⟨G.h, fun _ h => h, fun k Y => ⟨0, Nat.le_refl _, .root (h k Y)⟩⟩
theorem Wj {u : Arr Int 24} {d : Nat} {ρ : Nat → Nat} (h : Uni 24 u.l d ρ) (hd : d < 1000) {k : Nat} (hk : k < 24) : Ok (K3 u (k : Int)) fun r => r.1 = (ρ k : Int) ∧ Uni 24 r.2.l d ρ := by
 obtain ⟨m, hm, hr⟩ := h.rep k hk
 unfold K3
 refine .bind (Q := fun r : Arr Int 24 × Int => r.2 = (ρ k : Int) ∧ Uni 24 r.1.l d ρ) ?_ fun r hr => by unfold K3.J1; exact .pure hr
 refine .loopE (m := m) (fun m (st : Arr Int 24 × Int) => ∃ j : Nat, st.2 = (j : Int) ∧ j < 24 ∧ Uni 24 st.1.l d ρ ∧ ρ j = ρ k ∧ Rep st.1.l m j (ρ j)) ⟨k, rfl, hk, h, rfl, hr⟩ (by omega) ?_
 rintro m ⟨u, _⟩ ⟨j, rfl, hj, Z, he, O⟩
 dsimp only at Z O
 obtain ⟨i, hi, ad, hie⟩ := Z.at_ hj
 obtain ⟨i2, Y, aa, hie2⟩ := Z.at_ ad
 unfold K3.B2
 refine .bind' (.eq (Bb hi) (Cl (fun ae => ?_) fun ac => .pure ⟨?_, Z⟩))
 ·dsimp only at ae
  have G : j ≠ i := by omega
  refine .bind' (.eq (Bb Y) ?_)
  have ab : (u.l.set j (i2 : Int))[j]? = some (i2 : Int) := by
   rw [G3, if_pos ⟨rfl, (gs hi).1⟩]
  refine .bind' (.eq (Bb ab) (.pure ?_))
  obtain ⟨m', h1, h2, h3⟩ := Z.step hi G Y O
  exact ⟨m', h1, i2, rfl, aa, Z.halve hi G Y, h3.trans he, h2⟩
 ·dsimp only at ac
  have : i = j := by omega
  subst this
  dsimp only
  rw [← he, Z.fix hj hi]
theorem pI {u : Arr Int 24} {d : Nat} {ρ : Nat → Nat} (h : Uni 24 u.l d ρ) (Z : d < 1000) {a b : Nat} (O : a < 24) (hb : b < 24) :
  Ok (Vx u (a : Int) (b : Int)) fun r => Uni 24 r.l (d + 1) fun x => if ρ x = ρ a then ρ b else ρ x := by
 unfold Vx
 refine .bind (Wj h Z O) fun r1 Y => .bind (Wj Y.2 Z hb) fun r3 G => ?_
 rw [Y.1, G.1]
 have hl := G.2.len
 have := h.lt a O
 refine .bind' (.ix (ρ a) rfl (by omega) (.pure ?_))
 exact G.2.link O hb
structure Ends (n : Network) : Prop where
 len : n.Segments.length ≤ 32
 ends : ∀ (k : Nat) (s : Sg), n.Segments[k]? = some s → 0 ≤ s.From ∧ s.From < 24 ∧ 0 ≤ s.To ∧ s.To < 24
theorem NetOk.ends {n : Nw} (h : NetOk n) : Ends n := ⟨by have := h.segs1; omega, fun k s G => by have := (h.segs k s G).ends; have := h.nodes; omega⟩
def Fl (a b : Plan) (i : Nat) : Bool := a.Rates.getD i 0 != 0 || b.Rates.getD i 0 != 0
def fr (n : Nw) (i : Nat) : Nat := match n.Segments[i]? with | some s => s.From.toNat | none => 0
def to (n : Nw) (i : Nat) : Nat := match n.Segments[i]? with | some s => s.To.toNat | none => 0
def Rk (n : Nw) (a b : Plan) (k x y : Nat) : Prop := ∃ i, i < k ∧ Fl a b i = true ∧ x = fr n i ∧ y = to n i
theorem Ya {a b : Plan} {k : Nat} (G : k < a.Rates.length) (hb : k < b.Rates.length) : Ok (Nq (k : Int) a b) fun r => r = Fl a b k := by
 have O : a.Rates.getD k 0 = a.Rates[k] := by simp [List.getD_eq_getElem?_getD, G]
 have Y : b.Rates.getD k 0 = b.Rates[k] := by simp [List.getD_eq_getElem?_getD, hb]
 unfold Nq Nq.J1 Fl
 rw [O, Y]
 refine .bind' (.ix k rfl G (Bc (fun h => .pure ?_) fun h => .bind' (.ix k rfl hb (.pure ?_))))
 ·dsimp only at h; rw [h]; rfl
 ·dsimp only at h; rw [h]; rfl
def Mr (n : Nw) (a b : Plan) (ρ : Nat → Nat) (k r : Nat) : Li := ((List.range k).filter fun i => Fl a b i && Nat.beq (ρ (fr n i)) r).map fun (i : Nat) => (i : Int)
theorem Iz (n : Nw) (a b : Plan) (ρ : Nat → Nat) (k r : Nat) : Mr n a b ρ (k + 1) r = Mr n a b ρ k r ++ (if Fl a b k = true ∧ ρ (fr n k) = r then [(k : Int)] else []) := by
 unfold Mr
 rw [List.range_succ, List.filter_append, List.map_append]
 congr 1
 by_cases G : Fl a b k = true
 ·by_cases O : ρ (fr n k) = r
  ·simp [G, O]
  ·have : Nat.beq (ρ (fr n k)) r = false := by rw [Bool.eq_false_iff]; exact fun h => O (nq h)
   simp [G, O, this]
 ·simp [G]
structure Groups (n : Network) (a b : Plan) (out : List (List Int)) (ρ : Nat → Nat) (heads : List Nat) : Prop where
 conn : ∀ x y, ρ x = ρ y ↔ Conn (Rk n a b n.Segments.length) x y
 nodup : heads.Nodup
 mem : ∀ r, r ∈ heads ↔ ∃ i, i < n.Segments.length ∧ Fl a b i = true ∧ ρ (fr n i) = r
 out : out = heads.map (Mr n a b ρ n.Segments.length)
theorem dG {n : Nw} (hn : Ends n) {a b : Plan} (ha : a.Rates.length = n.Segments.length) (hb : b.Rates.length = n.Segments.length) :
  Ok (Px n a b) fun out => ∃ ρ heads, Groups n a b out ρ heads := by
 have hl := hn.len
 have frn : ∀ {k : Nat} {s : Sg}, n.Segments[k]? = some s → s.From = (fr n k : Int) ∧ s.To = (to n k : Int) ∧ fr n k < 24 ∧ to n k < 24 := by
  intro k s hs
  have := hn.ends k s hs
  unfold fr to
  rw [hs]
  dsimp only; omega
 unfold Px
 refine .bind lI fun r7 h7 => ?_
 refine .bind (Q := fun u : Arr Int 24 => ∃ ρ, Uni 24 u.l 32 ρ ∧ ∀ x y, ρ x = ρ y ↔ Conn (Rk n a b n.Segments.length) x y) ?_ ?_
 ·refine .forS (fun k (u : Arr Int 24) => ∃ ρ, Uni 24 u.l k ρ ∧ ∀ x y, ρ x = ρ y ↔ Conn (Rk n a b k) x y) ⟨_, h7, fun x y => ?_⟩ ?_ ?_
  ·refine pR.trans ⟨fun c => c.mono fun _ _ h => h.elim, fun c => c.mono fun _ _ ⟨i, h, _⟩ => absurd h (Nat.not_lt_zero _)⟩
  ·rintro k s u hs ⟨ρ, Y, hc⟩
   have hkl := (gs hs).1
   obtain ⟨e1, e2, e3, e4⟩ := frn hs
   unfold Px.B6
   refine .bind (Ya (by omega) (by omega)) ?_
   rintro _ rfl
   refine Bc (fun hf => ?_) fun hf => ?_
   ·rw [e1, e2]
    refine .bind (pI Y (by omega) e3 e4) fun r hr => ?_
    unfold Px.J7
    refine .pure ⟨_, hr, fun x y => (dL hc (fr n k) (to n k) x y).trans ⟨fun c => c.mono ?_, fun c => c.mono ?_⟩⟩
    ·rintro p q (⟨i, hi, h⟩ | ⟨rfl, rfl⟩)
     ·exact .edge ⟨i, by omega, h⟩
     ·exact .edge ⟨k, by omega, hf, rfl, rfl⟩
    ·rintro p q ⟨i, hi, G, rfl, rfl⟩
     by_cases hik : i = k
     ·subst hik; exact .edge (.inr ⟨rfl, rfl⟩)
     ·exact .edge (.inl ⟨i, by omega, G, rfl, rfl⟩)
   ·unfold Px.J7
    refine .pure ⟨ρ, ⟨Y.len, Y.lt, fun x hx => let ⟨m, G, O⟩ := Y.rep x hx; ⟨m, by omega, O⟩⟩, fun x y => (hc x y).trans ⟨fun c => c.mono ?_, fun c => c.mono ?_⟩⟩
    ·rintro p q ⟨i, hi, h⟩
     exact .edge ⟨i, by omega, h⟩
    ·rintro p q ⟨i, hi, G, O⟩
     have : i ≠ k := by rintro rfl; rw [hf] at G; cases G
     exact .edge ⟨i, by omega, G, O⟩
  ·rintro u ⟨ρ, Y, hc⟩
   exact ⟨ρ, ⟨Y.len, Y.lt, fun x hx => let ⟨m, G, O⟩ := Y.rep x hx; ⟨m, by omega, O⟩⟩, hc⟩
 rintro u ⟨ρ, Y, hc⟩
 unfold Px.J1
 refine .bind (Q := fun st : Arr Int 24 × List Li × Li => ∃ heads : List Nat, heads.Nodup ∧ (∀ r, r ∈ heads ↔ ∃ i, i < n.Segments.length ∧ Fl a b i = true ∧ ρ (fr n i) = r) ∧ st.2.1 = heads.map (Mr n a b ρ n.Segments.length)) ?_ ?_
 ·refine .forS (fun k (st : Arr Int 24 × List Li × Li) => Uni 24 st.1.l 32 ρ ∧ ∃ heads : List Nat, heads.length ≤ k ∧ heads.Nodup ∧ (∀ r, r ∈ heads ↔ ∃ i, i < k ∧ Fl a b i = true ∧ ρ (fr n i) = r) ∧ st.2.1 = heads.map (Mr n a b ρ k) ∧ st.2.2 = heads.map fun (r : Nat) => (r : Int))
   ⟨Y, [], by simp, by simp, by simp, by simp, by simp⟩ ?_ fun st ⟨_, heads, _, O, h3, h4, _⟩ => ⟨heads, O, h3, h4⟩
  rintro k s ⟨u, out, hd⟩ hs ⟨Y, heads, i1, i2, i3, rfl, rfl⟩
  have hkl := (gs hs).1
  obtain ⟨e1, e2, e3, e4⟩ := frn hs
  unfold Px.B3
  refine .bind (Ya (by omega) (by omega)) ?_
  rintro _ rfl
  refine De (fun hf => ?_) fun hf => ?_
  ·unfold Px.J4
   refine .pure ⟨Y, heads, by omega, i2, fun r => (i3 r).trans ⟨?_, ?_⟩, ?_, rfl⟩
   ·rintro ⟨i, hi, h⟩; exact ⟨i, by omega, h⟩
   ·rintro ⟨i, hi, G, O⟩
    have : i ≠ k := by rintro rfl; rw [hf] at G; cases G
    exact ⟨i, by omega, G, O⟩
   ·refine List.map_congr_left fun r _ => ?_
    rw [Iz]; simp [hf]
  ·rw [e1]
   refine .bind (Wj Y (by omega) e3) ?_
   rintro ⟨r, u'⟩ ⟨rfl, hu'⟩
   dsimp only at hu'
   refine .bind Sw fun ri hri => ?_
   have mem' : ∀ h : List Nat, (∀ r, r ∈ h ↔ r ∈ heads ∨ r = ρ (fr n k)) → ∀ r, r ∈ h ↔ ∃ i, i < k + 1 ∧ Fl a b i = true ∧ ρ (fr n i) = r := by
    intro h hh r
    rw [hh r, i3 r]
    constructor
    ·rintro (⟨i, hi, h⟩ | rfl)
     ·exact ⟨i, by omega, h⟩
     ·exact ⟨k, by omega, hf, rfl⟩
    ·rintro ⟨i, hi, G, O⟩
     by_cases hik : i = k
     ·subst hik; exact .inr O.symm
     ·exact .inl ⟨i, by omega, G, O⟩
   rcases hri with ⟨rfl, hno⟩ | ⟨j, y, rfl, hj, hy, _⟩
   ·-- a new group
    have Z : ρ (fr n k) ∉ heads := by
     intro hm
     obtain ⟨j, hj⟩ := List.getElem?_of_mem hm
     have := hno j (ρ (fr n k)) (by dsimp only; rw [List.getElem?_map, hj]; rfl)
     simp at this
    refine A7 (fun _ => ?_) fun h => absurd (show (-1 : Int) < 0 by decide) h
    refine .bind' (.app (by simp; omega) (.bind' (.app (by simp; omega) ?_)))
    unfold Px.J5
    dsimp only
    refine .bind' (.ix heads.length (by simp) (by simp) ?_)
    have e5 : (heads.map (Mr n a b ρ k) ++ [[]])[heads.length]'(by simp) = ([] : Li) := by simp
    dsimp only
    rw [e5]
    refine .bind' (.app (by simp) ?_)
    unfold Px.J4
    refine .pure ⟨hu', heads ++ [ρ (fr n k)], by simp; omega, ?_, mem' _ (by simp), ?_, by simp⟩
    ·exact List.nodup_append.2 ⟨i2, by simp, fun x hx y hy => by simp at hy; subst hy; exact fun h => Z (h ▸ hx)⟩
    ·have e6 : Mr n a b ρ k (ρ (fr n k)) = [] := by
      unfold Mr
      rw [List.map_eq_nil_iff, List.filter_eq_nil_iff]
      intro i hi hh
      simp only [List.mem_range] at hi
      simp only [Bool.and_eq_true] at hh
      exact Z ((i3 _).2 ⟨i, hi, hh.1, nq hh.2⟩)
     dsimp only
     rw [List.set_append_right _ _ (by simp), List.map_append]
     simp only [List.length_map, Nat.sub_self, List.set_cons_zero, List.map_cons, List.map_nil, List.nil_append]
     congr 1
     ·refine List.map_congr_left fun r hr => ?_
      rw [Iz, if_neg, List.append_nil]
      rintro ⟨_, rfl⟩; exact Z hr
     ·rw [Iz, if_pos ⟨hf, rfl⟩, e6]; rfl
   ·-- an old one
    refine A7 (fun h => by omega) fun _ => ?_
    dsimp only at hj
    rw [List.getElem?_map] at hj
    obtain ⟨r, hr, rfl⟩ := Option.map_eq_some_iff.1 hj
    have hrk : ρ (fr n k) = r := by simp at hy; omega
    subst hrk
    have hjl := (gs hr).1
    unfold Px.J5
    dsimp only
    have hg : (heads.map (Mr n a b ρ k))[j]? = some (Mr n a b ρ k (ρ (fr n k))) := by rw [List.getElem?_map, hr]; rfl
    refine .bind' (.eq (Bb hg) ?_)
    have hgl : (Mr n a b ρ k (ρ (fr n k))).length ≤ k := by
     unfold Mr
     rw [List.length_map]
     exact Nat.le_trans (List.length_filter_le _ _) (by simp)
    refine .bind' (.app (by simp; omega) ?_)
    unfold Px.J4
    have hmem : ρ (fr n k) ∈ heads := mg hr
    refine .pure ⟨hu', heads, by omega, i2, mem' _ (fun r => ⟨.inl, fun h => h.elim id fun h => h ▸ hmem⟩), ?_, rfl⟩
    dsimp only
    refine List.ext_getElem? fun i => ?_
    rw [G3, List.getElem?_map, List.getElem?_map]
    by_cases hij : j = i
    ·subst hij
     rw [if_pos ⟨rfl, by simpa using hjl⟩, hr]
     simp only [Option.map_some, Option.some.injEq]
     rw [Iz, if_pos ⟨hf, rfl⟩]
    ·rw [if_neg (fun h => hij h.1)]
     cases hi : heads[i]? with
     | none => rfl
     | some r =>
      simp only [Option.map_some, Option.some.injEq]
      rw [Iz, if_neg, List.append_nil]
      rintro ⟨_, rfl⟩
      exact hij ((List.getElem?_inj hjl i2).1 (hr.trans hi.symm))
 ·rintro ⟨u, out, hd⟩ ⟨heads, G, O, h3⟩
  unfold Px.J2
  exact .pure ⟨ρ, heads, hc, G, O, h3⟩
theorem pW : Zy = some true := by kernel_rfl
theorem Jf {n : Nw} {a b : Plan} {ρ : Nat → Nat} {k r : Nat} {x : Int} : x ∈ Mr n a b ρ k r ↔ ∃ i : Nat, x = (i : Int) ∧ i < k ∧ Fl a b i = true ∧ ρ (fr n i) = r := by
 unfold Mr
 simp only [List.mem_map, List.mem_filter, List.mem_range, Bool.and_eq_true]
 constructor
 ·rintro ⟨i, ⟨G, O, Y⟩, rfl⟩
  exact ⟨i, rfl, G, O, nq Y⟩
 ·rintro ⟨i, rfl, G, O, rfl⟩
  exact ⟨i, ⟨G, O, by simp⟩, rfl⟩
def wave (n : Nw) (i : Nat) : Int := match n.Segments[i]? with | some s => s.Wave | none => 0
def rt (a : Plan) (i : Nat) : Int := a.Rates.getD i 0
def wv (n : Nw) (a b : Plan) (i : Nat) : Int := wave n i * max (rt b i - rt a i) (rt a i - rt b i)
def Hu (f : Nat → Int) : Li → Int
 | [] => 0
 | x :: l => f x.toNat + Hu f l
theorem Ow (f : Nat → Int) : ∀ l m : Li, Hu f (l ++ m) = Hu f l + Hu f m
 | [], m => by simp [Hu]
 | x :: l, m => by simp only [List.cons_append, Hu, Ow f l m]; omega
theorem cM (f : Nat → Int) {l : Li} {k : Nat} {x : Int} (h : l[k]? = some x) : Hu f (l.take (k + 1)) = Hu f (l.take k) + f x.toNat := by
 rw [List.take_add_one, h, Ow]; simp [Hu]
theorem Re {f : Nat → Int} {b : Int} : ∀ {l : Li}, (∀ x, x ∈ l → 0 ≤ f x.toNat ∧ f x.toNat ≤ b) → 0 ≤ Hu f l ∧ Hu f l ≤ b * l.length
 | [], _ => by simp [Hu]
 | x :: l, h => by
  have := h x (by simp)
  have := Re (l := l) (b := b) fun y G => h y (by simp [G])
  simp only [Hu, List.length_cons]
  have e : b * ((l.length + 1 : Nat) : Int) = b * l.length + b := by rw [show ((l.length + 1 : Nat) : Int) = (l.length : Int) + 1 by omega, Int.mul_add, Int.mul_one]
  rw [e]; omega
theorem bS {n : Nw} {a b : Plan} {ρ : Nat → Nat} {k r : Nat} : (Mr n a b ρ k r).length ≤ k := by
 unfold Mr
 rw [List.length_map]
 exact Nat.le_trans (List.length_filter_le _ _) (by simp)
structure RiseIn (n : Network) (a b : Plan) : Prop where
 net : Ends n
 al : a.Rates.length = n.Segments.length
 bl : b.Rates.length = n.Segments.length
 wave : ∀ (k : Nat) (s : Sg), n.Segments[k]? = some s → 0 ≤ s.Wave ∧ s.Wave ≤ 100000
 ar : ∀ (k : Nat) (r : Int), a.Rates[k]? = some r → -1000 ≤ r ∧ r ≤ 1000
 br : ∀ (k : Nat) (r : Int), b.Rates[k]? = some r → -1000 ≤ r ∧ r ≤ 1000
structure RiseIs (n : Network) (a b : Plan) (st : List Int) (ρ : Nat → Nat) : Prop where
 len : st.length = n.Segments.length
 conn : ∀ x y, ρ x = ρ y ↔ Conn (Rk n a b n.Segments.length) x y
 is : ∀ (i : Nat) (v : Int), st[i]? = some v → v = if Fl a b i = true then Hu (wv n a b) (Mr n a b ρ n.Segments.length (ρ (fr n i))) else 0
def kG (n : Nw) (a b : Plan) (ρ : Nat → Nat) (heads : List Nat) (g i : Nat) (v : Int) : Prop :=
 (v = 0 ∧ ∀ (j r : Nat), j < g → heads[j]? = some r → ¬ (Fl a b i = true ∧ ρ (fr n i) = r)) ∨ ∃ (j r : Nat), j < g ∧ heads[j]? = some r ∧ (Fl a b i = true ∧ ρ (fr n i) = r) ∧ v = Hu (wv n a b) (Mr n a b ρ n.Segments.length r)
theorem Zl {n : Nw} {a b : Plan} (h : RiseIn n a b) {i : Nat} (hi : i < n.Segments.length) : 0 ≤ wv n a b i ∧ wv n a b i ≤ 200000000 := by
 have hs : n.Segments[i]? = some n.Segments[i] := gq hi
 have Y : a.Rates[i]? = some (a.Rates[i]'(by rw [h.al]; exact hi)) := gq _
 have Z : b.Rates[i]? = some (b.Rates[i]'(by rw [h.bl]; exact hi)) := gq _
 have O := h.wave i _ hs; have h2 := h.ar i _ Y; have h3 := h.br i _ Z
 unfold wv wave rt
 rw [hs, List.getD_eq_getElem?_getD, List.getD_eq_getElem?_getD, Y, Z]
 dsimp only [Option.getD_some]
 have G : 0 ≤ max ((b.Rates[i]'(by rw [h.bl]; exact hi)) - (a.Rates[i]'(by rw [h.al]; exact hi))) ((a.Rates[i]'(by rw [h.al]; exact hi)) - (b.Rates[i]'(by rw [h.bl]; exact hi))) ∧ max ((b.Rates[i]'(by rw [h.bl]; exact hi)) - (a.Rates[i]'(by rw [h.al]; exact hi))) ((a.Rates[i]'(by rw [h.al]; exact hi)) - (b.Rates[i]'(by rw [h.bl]; exact hi))) ≤ 2000 := by omega
 refine ⟨Int.mul_nonneg O.1 G.1, ?_⟩
 have := Int.mul_le_mul O.2 G.2 G.1 (by omega : (0 : Int) ≤ 100000)
 omega
theorem sW {n : Nw} {a b : Plan} (h : RiseIn n a b) {i : Nat} {s : Sg} {x y : Int} (O : n.Segments[i]? = some s) (G : a.Rates[i]? = some x) (hb : b.Rates[i]? = some y) : wv n a b i = s.Wave * max (y - x) (x - y) := by
 unfold wv wave rt
 rw [O, List.getD_eq_getElem?_getD, List.getD_eq_getElem?_getD, G, hb]
 rfl
theorem oW {n : Nw} {a b : Plan} (h : RiseIn n a b) : Ok (Kx n a b) fun st => ∃ ρ, RiseIs n a b st ρ := by
 have hl := h.net.len; have hal := h.al; have hbl := h.bl
 unfold Kx
 refine .bind' (.mk n.Segments.length rfl (by omega) ?_)
 refine .bind (dG h.net h.al h.bl) ?_
 rintro out ⟨ρ, G, hg⟩
 refine .bind (.forS (fun g (st : Li) => st.length = n.Segments.length ∧ ∀ (i : Nat) (v : Int), st[i]? = some v → kG n a b ρ G g i v) ⟨by simp, fun i v O => ?_⟩ ?_ fun st h => h) ?_
 ·rw [List.getElem?_replicate] at O
  split at O
  ·simp at O; exact .inl ⟨O.symm, fun j r hj => absurd hj (Nat.not_lt_zero _)⟩
  ·cases O
 ·rintro g l st hgo ⟨i1, i2⟩
  rw [hg.out, List.getElem?_map] at hgo
  obtain ⟨r, hr, rfl⟩ := Option.map_eq_some_iff.1 hgo
  unfold Kx.B2
  have hbnd : ∀ x, x ∈ Mr n a b ρ n.Segments.length r → 0 ≤ wv n a b x.toNat ∧ wv n a b x.toNat ≤ 200000000 := fun x Z => by
   obtain ⟨i, rfl, hi, _⟩ := Jf.1 Z
   exact Zl h hi
  refine .bind (Q := fun s => s = Hu (wv n a b) (Mr n a b ρ n.Segments.length r)) ?_ ?_
  ·refine .forS (fun k s => s = Hu (wv n a b) ((Mr n a b ρ n.Segments.length r).take k)) (by simp [Hu]) ?_ fun s hs => by rw [hs, List.take_of_length_le (Nat.le_refl _)]
   rintro k x _ Z rfl
   have hm := mg Z
   have hkl := (gs Z).1
   have hgl := bS (n := n) (a := a) (b := b) (ρ := ρ) (k := n.Segments.length) (r := r)
   obtain ⟨i, rfl, hi, _⟩ := Jf.1 hm
   have hs : n.Segments[i]? = some n.Segments[i] := gq hi
   have ha : a.Rates[i]? = some (a.Rates[i]'(by omega)) := gq _
   have hb : b.Rates[i]? = some (b.Rates[i]'(by omega)) := gq _
   have h2 := h.ar i _ ha; have h3 := h.br i _ hb
   have hw := sW h hs ha hb
   have hwb := Zl h hi
   have hsb := Re (f := wv n a b) (b := 200000000) (l := (Mr n a b ρ n.Segments.length r).take k) fun x Z => hbnd x (List.mem_of_mem_take Z)
   rw [List.length_take] at hsb
   unfold Kx.B6
   refine .bind' (.eq (Bb hb) (.bind' (.eq (Bb ha) (.bind' (.eq (Bb hs) (.pure ?_))))))
   rw [cM _ Z]
   dsimp only
   generalize hA : a.Rates[i]'(by omega) = x at *
   generalize hB : b.Rates[i]'(by omega) = y at *
   have e : max (wr (y - x)) (wr (0 - wr (y - x))) = max (y - x) (x - y) := by
    rw [Av (x := y - x) (by omega), Av (by omega)]; omega
   rw [e, ← hw, Av (x := wv n a b i) (by omega), Av (by omega)]; rfl
  rintro _ rfl
  unfold Kx.J4
  refine .bind (Q := fun st : Li => st.length = n.Segments.length ∧ ∀ (i : Nat) (v : Int), st[i]? = some v → kG n a b ρ G (g + 1) i v) ?_ fun st hst => by unfold Kx.J3; exact .pure hst
  refine .forS (fun t (st : Li) => st.length = n.Segments.length ∧ ∀ (i : Nat) (v : Int), st[i]? = some v → ((i : Int) ∈ (Mr n a b ρ n.Segments.length r).take t → v = Hu (wv n a b) (Mr n a b ρ n.Segments.length r)) ∧ ((i : Int) ∉ (Mr n a b ρ n.Segments.length r).take t → kG n a b ρ G g i v)) ⟨i1, fun i v O => ⟨by simp, fun _ => i2 i v O⟩⟩ ?_ ?_
  ·rintro t x st Z ⟨j1, j2⟩
   obtain ⟨i, rfl, hi, hfi, hri⟩ := Jf.1 (mg Z)
   have hil : i < st.length := by omega
   unfold Kx.B5
   refine .bind' (.ix i rfl hil (.pure ⟨by simp [j1], fun i' v Y => ?_⟩))
   dsimp only at Y
   rw [G3] at Y
   rw [List.take_add_one, Z]
   split at Y
   ·rename_i h
    obtain ⟨rfl, _⟩ := h
    simp at Y
    exact ⟨fun _ => Y.symm, fun h => by simp at h⟩
   ·rename_i h
    have hne : i ≠ i' := fun he => h ⟨he, by rw [← he]; exact hil⟩
    have := j2 i' v Y
    refine ⟨fun h => this.1 ?_, fun h => this.2 fun h' => h (List.mem_append_left _ h')⟩
    rcases List.mem_append.1 h with h | h
    ·exact h
    ·simp at h; omega
  ·rintro st ⟨j1, j2⟩
   refine ⟨j1, fun i v O => ?_⟩
   have := j2 i v O
   rw [List.take_of_length_le (Nat.le_refl _)] at this
   by_cases aa : (i : Int) ∈ Mr n a b ρ n.Segments.length r
   ·obtain ⟨i', hii, _, h1, h2⟩ := Jf.1 aa
    have : i' = i := by omega
    subst this
    exact .inr ⟨g, r, by omega, hr, ⟨h1, h2⟩, (this.1 aa)⟩
   ·rcases this.2 aa with ⟨h1, h2⟩ | ⟨j, r', h1, h2⟩
    ·refine .inl ⟨h1, fun j r' hj ab hh => ?_⟩
     by_cases hjg : j = g
     ·subst hjg
      rw [hr] at ab; simp at ab; subst ab
      exact aa (Jf.2 ⟨i, rfl, by have := (gs O).1; omega, hh⟩)
     ·exact h2 j r' (by omega) ab hh
    ·exact .inr ⟨j, r', by omega, h2⟩
 ·rintro st ⟨i1, i2⟩
  unfold Kx.J1
  have hol : out.length = G.length := by rw [hg.out]; simp
  rw [hol] at i2
  refine .pure ⟨ρ, i1, hg.conn, fun i v O => ?_⟩
  have hil := (gs O).1
  rcases i2 i v O with ⟨rfl, h⟩ | ⟨j, r, h1, h2, ⟨h3, h4⟩, rfl⟩
  ·rw [if_neg]
   intro hf
   obtain ⟨j, hj⟩ := List.getElem?_of_mem ((hg.mem (ρ (fr n i))).2 ⟨i, by omega, hf, rfl⟩)
   exact absurd ⟨hf, rfl⟩ (h j _ (gs hj).1 hj)
  ·rw [if_pos h3, h4]
theorem oX {n : Nw} (hn : NetOk n) {a b : Plan} (Y : FlowOk n a) (hb : FlowOk n b) : RiseIn n a b := by
 have hr : ∀ {p : Plan}, FlowOk n p → ∀ (k : Nat) (r : Int), p.Rates[k]? = some r → -1000 ≤ r ∧ r ≤ 1000 := fun {p} hp k r Z => by
  have G := (gs Z).1
  have O : n.Segments[k]? = some (n.Segments[k]'(by rw [← hp.rl]; exact G)) := gq _
  have := hp.rng k r _ Z O
  omega
 exact ⟨hn.ends, Y.rl, hb.rl, fun k s O => (hn.segs k s O).wave, hr Y, hr hb⟩
theorem rP {n : Nw} (O : NetOk n) {a b : Plan} (G : PlanOk n a) (hb : PlanOk n b) : RiseIn n a b := oX O G.flow hb.flow
theorem Z9 {cs : List Change} (hl : 1 ≤ cs.length ∧ cs.length ≤ 40) (h0 : ∀ c, cs[0]? = some c → c.Tick = 0) (Z : ∀ (i : Nat) (a c : Change), cs[i]? = some a → cs[i + 1]? = some c → a.Tick < c.Tick) (hm : ∀ c, c ∈ cs → c.Tick ≤ 1099511627776) : K0 cs = some 0 := by
 have : Ok (K0 cs) fun r => r = 0 := by
  unfold K0
  refine Bc (fun h => ?_) fun _ => .bind' (.forL (fun _ _ => True) (fun _ => False) trivial ?_ (fun _ _ => .pure rfl) fun _ h => h.elim)
  ·simp only [Bool.or_eq_true, beq_iff_eq, decide_eq_true_eq] at h; omega
  intro k c _ Y _
  have hb := hm c (mg Y)
  have hk := (gs Y).1
  have no : Ok (K0.J3 (decide (c.Tick > 1099511627776))) (Sum.elim (fun _ : Unit => True) fun _ : Int => False) := by
   rw [show decide (c.Tick > 1099511627776) = false by simp; omega]
   unfold K0.J3
   exact Bc (fun h => by cases h) fun _ => .pure trivial
  have O : 0 < k → Ok (Option.bind (ix cs (wr ((k : Int) - 1))) fun G => if decide (c.Tick ≤ G.2.Tick) = true then K0.J3 true else K0.J3 (decide (c.Tick > 1099511627776))) (Sum.elim (fun _ : Unit => True) fun _ : Int => False) := by
   intro hk0
   have ha : cs[k - 1]? = some (cs[k - 1]'(by omega)) := gq _
   have := Z (k - 1) _ c ha (by rw [show k - 1 + 1 = k by omega]; exact Y)
   rw [Av (by omega), show (k : Int) - 1 = ((k - 1 : Nat) : Int) by omega]
   exact .bind' (.eq (Bb ha) (A7 (fun h => by dsimp only at h; omega) fun _ => no))
  unfold K0.B2
  refine C6 (fun h => ?_) fun h => A7 (fun _ => O (by omega)) fun _ => no
  have : k = 0 := by omega
  subst this
  exact Cl (fun h1 => absurd (h0 c Y) h1) fun _ => A7 (fun h => by omega) fun _ => no
 obtain ⟨r, h, rfl⟩ := this
 exact h
section
variable (n : Nw) (b : List Batch) (pr : List Product) (f : List (List Piece))
def Oo (p : Plan) (e : Li) : Prop := ∃ x, Ff n b pr f p = some (x, 0) ∧ Broken n p x e
def Ib : Li := List.replicate n.Segments.length 0
end
theorem Xq (n : Nw) : ExOk n (Ib n) := ⟨by simp [Ib], fun x G => by have := List.eq_of_mem_replicate G; omega⟩
theorem mM {n : Nw} {b : List Batch} {pr : List Product} {f : List (List Piece)} {p : Plan} {e : Li} (he : ExOk n e) (h : Oo n b pr f p (Ib n)) : Oo n b pr f p e := by
 obtain ⟨x, O, Y⟩ := h
 refine ⟨x, O, Y.mono (by simp [Ib, he.len]) fun i a a' Z G => ?_⟩
 have := he.all _ (mg G)
 have : a = 0 := List.eq_of_mem_replicate (mg Z)
 omega
section
variable (n : Nw) (b : List Batch) (pr : List Product) (f : List (List Piece))
def Lv (E : Nat → Li) (cs : List Change) : Prop :=
 (∀ c, cs[0]? = some c → ¬ Oo n b pr f c.Plan (Ib n)) ∧ ∀ (k : Nat) (a c : Change), cs[k]? = some a → cs[k + 1]? = some c → ¬ Oo n b pr f a.Plan (E k) ∧ ¬ Oo n b pr f c.Plan (E k)
end
set_option maxHeartbeats 2000000 in
theorem lM {n : Nw} {b : List Batch} {pr : List Product} {f : List (List Piece)} (hw : W21 n b pr f) {cs : List Change} (hl : 1 ≤ cs.length ∧ cs.length ≤ 40) (hord : K0 cs = some 0) (hp : ∀ c, c ∈ cs → PlanOk n c.Plan)
  {E : Nat → Li} (hE : ∀ (k : Nat) (c : Change), cs[k + 1]? = some c → M9 n cs ((k + 1 : Nat) : Int) = some (E k) ∧ ExOk n (E k)) :
  Ok (Kz n b pr f cs) fun r => (r = (⟨0, 0, 0⟩, 0) ∧ Lv n b pr f E cs) ∨ (r.2 = 15 ∧ ¬ Lv n b pr f E cs ∧ ∀ (c : Change) (x : Pressures) (fa : Fault), cs[0]? = some c → Ff n b pr f c.Plan = some (x, 0) → F9 n x c.Plan (Ib n) = some (fa, true) → r.1 = fa) := by
 have hn := hw.net
 have hs1 := hn.segs1
 unfold Kz
 refine .bind' (.eq hord (Cl (fun h => absurd rfl h) fun _ => .bind' (.forL (fun _ _ => True) (fun _ => False) trivial ?_ ?_ fun _ h => h.elim)))
 ·intro k c _ G _
  unfold Kz.B10
  exact .bind' (.eq (dH hn (hp c (mg G))) (Cl (fun h => absurd rfl h) fun _ => .pure trivial))
 intro _ _
 simp only [Sum.elim_inl]
 unfold Kz.J1
 refine .bind' (.forL (fun k (st : List Pressures) => st.length = k ∧ ∀ (j : Nat) (x : Pressures) (c : Change), st[j]? = some x → cs[j]? = some c → Ff n b pr f c.Plan = some (x, 0) ∧ Inv n 400000000000 x.Known x.Nodes x.Segments) (fun _ => False) ⟨rfl, by simp⟩ ?_ ?_ fun _ h => h.elim)
 ·rintro k c st G ⟨i1, i2⟩
  have hk := (gs G).1
  obtain ⟨x, hx1, hx2⟩ := Xv hw (hp c (mg G)).flow
  unfold Kz.B9
  refine .bind' (.eq hx1 (Cl (fun h => absurd rfl h) fun _ => .bind' (.app (by simp; omega) (.pure ⟨by simp [i1], fun j y d hy hd => ?_⟩))))
  rw [List.getElem?_append] at hy
  split at hy
  ·exact i2 j y d hy hd
  ·have := (gs hy).1
   simp at this
   have : j = st.length := by omega
   subst this
   subst i1
   rw [G] at hd; cases hd
   simp at hy; subst hy
   exact ⟨hx1, hx2⟩
 rintro X ⟨hXl, hX⟩
 simp only [Sum.elim_inl]
 have Z : ∀ (k : Nat) (c : Change) (x : Pressures) (e : Li), cs[k]? = some c → X[k]? = some x → ExOk n e → Ok (F9 n x c.Plan e) fun r => (r.2 = true ↔ Oo n b pr f c.Plan e) := by
  intro k c x e G hx he
  obtain ⟨h1, h2⟩ := hX k x c hx G
  refine (Yh hn (hp c (mg G)).ml h2 he).mono fun r hr => hr.trans ⟨fun h => ⟨x, h1, h⟩, ?_⟩
  rintro ⟨x', h, h'⟩
  rw [h1] at h; cases h; exact h'
 have O : cs[0]? = some (cs[0]'(by omega)) := gq _
 have hx0 : X[0]? = some (X[0]'(by omega)) := gq _
 have hc0' : ix cs 0 = some (0, cs[0]'(by omega)) := Bb O
 have hx0' : ix X 0 = some (0, X[0]'(by omega)) := Bb hx0
 unfold Kz.J2
 rw [hc0', hx0']
 refine .bind' (.pure (.bind' (.pure (.bind' (.mk n.Segments.length rfl (by omega) (.bind (Q := fun r => F9 n (X[0]'(by omega)) (cs[0]'(by omega)).Plan (Ib n) = some r ∧ (r.2 = true ↔ Oo n b pr f (cs[0]'(by omega)).Plan (Ib n))) (let ⟨r, q1, q2⟩ := Z 0 _ _ _ O hx0 (Xq n); ⟨r, q1, q1, q2⟩) ?_))))))
 rintro ⟨⟨fk, fi, fa⟩, found⟩ ⟨hbrk, hf⟩
 dsimp only at hf ⊢
 unfold Kz.J3
 dsimp only
 have hs0 := (hX 0 _ _ hx0 O).1
 refine Bc (fun Y => .pure (.inr ⟨rfl, fun hg => hg.1 _ O (hf.1 Y), fun c x fa' h1 h2 h3 => ?_⟩)) fun Y => ?_
 ·rw [O] at h1; cases h1
  rw [hs0] at h2; cases h2
  rw [hbrk] at h3; cases h3; rfl
 have hbrk0 : ∀ (c : Change) (x : Pressures) (fa : Fault), cs[0]? = some c → Ff n b pr f c.Plan = some (x, 0) → F9 n x c.Plan (Ib n) = some (fa, true) → False := fun c x fa' h1 h2 h3 => by
  rw [O] at h1; cases h1
  rw [hs0] at h2; cases h2
  rw [hbrk] at h3; cases h3; cases Y
 have hb0 : ¬ Oo n b pr f (cs[0]'(by omega)).Plan (Ib n) := fun h => by rw [hf.2 h] at Y; cases Y
 refine .bind (Q := Sum.elim (fun d : Fault × Int => d.2 = 15 ∧ ¬ Lv n b pr f E cs) fun _ : Unit => Lv n b pr f E cs) ?_ ?_
 ·refine .loop (fun st : Int => ∃ k : Nat, st = ((k + 1 : Nat) : Int) ∧ k + 1 ≤ cs.length ∧ ∀ (j : Nat) (a c : Change), j < k → cs[j]? = some a → cs[j + 1]? = some c → ¬ Oo n b pr f a.Plan (E j) ∧ ¬ Oo n b pr f c.Plan (E j)) (fun st => cs.length - st.toNat)
   ⟨0, rfl, by omega, fun j a c h => absurd h (Nat.not_lt_zero _)⟩ (by omega) ?_
  rintro _ ⟨k, rfl, hk, hJ⟩
  unfold Kz.B5
  refine A7 (fun hlt => ?_) fun hge => .pure ⟨fun c G => ?_, fun j a c ha G => hJ j a c ?_ ha G⟩
  ·obtain ⟨A, ha⟩ : ∃ A, cs[k]? = some A := ⟨_, gq (by omega)⟩
   obtain ⟨C, G⟩ : ∃ C, cs[k + 1]? = some C := ⟨_, gq (by omega)⟩
   obtain ⟨xa, hxa⟩ : ∃ x, X[k]? = some x := ⟨_, gq (by omega)⟩
   obtain ⟨xc, hxc⟩ : ∃ x, X[k + 1]? = some x := ⟨_, gq (by omega)⟩
   obtain ⟨hr, hre⟩ := hE k C G
   obtain ⟨r, hrE⟩ : ∃ r, r = E k := ⟨_, rfl⟩
   rw [← hrE] at hr hre
   have ecl : Iq r = some r := by
    unfold Iq
    rw [Wo (by have := hre.len; simp; omega)]; rfl
   refine .bind' (.eq hr (.bind' (.eq ecl ?_)))
   rw [Av (x := ((k + 1 : Nat) : Int) - 1) (by omega), show ((k + 1 : Nat) : Int) - 1 = (k : Int) by omega]
   refine .bind (Q := Sum.elim (fun _ : Unit => ¬ Oo n b pr f A.Plan r ∧ ¬ Oo n b pr f C.Plan r) fun d : Fault × Int => d.2 = 15 ∧ ¬ Lv n b pr f E cs)
    (.forI (fun i _ => (1 ≤ i → ¬ Oo n b pr f A.Plan r) ∧ (2 ≤ i → ¬ Oo n b pr f C.Plan r)) (fun d => d.2 = 15 ∧ ¬ Lv n b pr f E cs) ⟨fun h => by omega, fun h => by omega⟩ ?_ ?_ fun _ h => h) ?_
   ·rintro i _ hi ⟨q1, q2⟩
    simp only [List.length_cons, List.length_nil] at hi
    have j8 : ∀ (c : Change) (t : Fault × Bool), (t.2 = true ↔ Oo n b pr f c.Plan r) → (c = A ∧ i = 0 ∨ c = C ∧ i = 1) → Ok (Kz.J8 (t.1.Kind, t.1.Index, t.1.At, t.2)) (Sum.elim (fun _ : Unit => (1 ≤ i + 1 → ¬ Oo n b pr f A.Plan r) ∧ (2 ≤ i + 1 → ¬ Oo n b pr f C.Plan r)) fun d : Fault × Int => d.2 = 15 ∧ ¬ Lv n b pr f E cs) := by
     intro c t ht hci
     unfold Kz.J8
     refine Bc (fun h => .pure ⟨rfl, fun hg => ?_⟩) fun h => .pure ?_
     ·have hbr := ht.1 h
      rcases hci with ⟨rfl, _⟩ | ⟨rfl, _⟩
      ·exact (hg.2 k _ _ ha G).1 (hrE ▸ hbr)
      ·exact (hg.2 k _ _ ha G).2 (hrE ▸ hbr)
     ·have hnb : ¬ Oo n b pr f c.Plan r := fun hb => by have := ht.2 hb; dsimp only at h; rw [this] at h; cases h
      rcases hci with ⟨rfl, rfl⟩ | ⟨rfl, rfl⟩
      ·exact ⟨fun _ => hnb, fun h => by omega⟩
      ·exact ⟨fun _ => q1 (by omega), fun _ => hnb⟩
    unfold Kz.B7
    have hwr : wr (((k + 1 : Nat) : Int) - 1) = (k : Int) := by rw [Av (by omega)]; omega
    rw [hwr]
    have hi01 : i = 0 ∨ i = 1 := by omega
    rcases hi01 with rfl | rfl
    ·have e0 : ix ([(k : Int), ((k + 1 : Nat) : Int)] : Li) ((0 : Nat) : Int) = some (0, (k : Int)) := rfl
     rw [e0]
     simp only [Option.bind_some]
     rw [Bb hxa, Bb ha]
     simp only [Option.bind_some]
     exact .bind (Z k A xa r ha hxa hre) fun t ht => j8 A t ht (.inl ⟨rfl, rfl⟩)
    ·have e0 : ix ([(k : Int), ((k + 1 : Nat) : Int)] : Li) ((1 : Nat) : Int) = some (1, ((k + 1 : Nat) : Int)) := rfl
     rw [e0]
     simp only [Option.bind_some]
     rw [Bb hxc, Bb G]
     simp only [Option.bind_some]
     exact .bind (Z (k + 1) C xc r G hxc hre) fun t ht => j8 C t ht (.inr ⟨rfl, rfl⟩)
   ·rintro _ ⟨q1, q2⟩
    exact ⟨q1 (by simp), q2 (by simp)⟩
   ·rintro (_ | d) hd
    ·unfold Kz.J6
     refine .pure ⟨⟨k + 1, ?_, by omega, fun j a c hj ha' hc' => ?_⟩, ?_⟩
     ·rw [Av (by omega)]; omega
     ·by_cases hjk : j = k
      ·subst hjk
       rw [ha] at ha'; cases ha'
       rw [G] at hc'; cases hc'
       rw [← hrE]; exact hd
      ·exact hJ j a c (by omega) ha' hc'
     ·rw [Av (by omega)]; omega
    ·exact .pure hd
  ·rw [O] at G; cases G; exact hb0
  ·have := (gs G).1; omega
 ·rintro (d | _) hd
  ·exact .pure (.inr ⟨hd.1, hd.2, fun c x fa' h1 h2 h3 => (hbrk0 c x fa' h1 h2 h3).elim⟩)
  ·unfold Kz.J4
   exact .pure (.inl ⟨rfl, hd⟩)
theorem Inv.ent {n : Nw} {b : List Batch} {p : Plan} {K : List Bool} {N : List Bounds} {S : List (List Level)} {B : Int} (O : NetOk n) (hp : FlowOk n p) (h : Inv n B K N S) (hB : 0 ≤ B ∧ B ≤ 1000000000000000) {v : Nat} {Y c : Bounds} (hg : N[v]? = some Y) (he : bZ n p (v : Int) Y c) : Bd (B + 2000000) c := by
 have h1 := O.sts1; have h3 := O.nodes
 have G := h.nb _ (mg hg)
 rcases he with ⟨j, t, Z, htn, _, rfl⟩ | ⟨_, rfl⟩
 ·have hj := (gs Z).1
  obtain ⟨_, o1, o2⟩ := N3 (b := b) (pr := []) (f := []) (K := K) (N := N) (S := S) O hp (v : Int)
  exact (Rj (O.sts j t Z) (by omega) (by omega) hB G ⟨o1, o2⟩).2
 ·exact G.mono (by omega)
theorem N1 {n : Nw} (G : NetOk n) {i j : Nat} {t u : Sn} (h1 : n.Stations[i]? = some t) (h2 : n.Stations[j]? = some u) (he : t.Node = u.Node) : i = j := by
 rcases Nat.lt_trichotomy i j with h | h | h
 ·have := G.stsUp i j t u h h1 h2; omega
 ·exact h
 ·have := G.stsUp j i u t h h2 h1; omega
theorem aD {n : Nw} {p : Plan} (hn : NetOk n) {v : Int} {b c d : Bounds} (h1 : bZ n p v b c) (h2 : bZ n p v b d) : c = d := by
 rcases h1 with ⟨j, t, O, Y, a3, rfl⟩ | ⟨O, rfl⟩ <;> rcases h2 with ⟨i, u, G, Z, c3, rfl⟩ | ⟨G, rfl⟩
 ·have := N1 hn O G (by rw [Y, Z])
  subst this
  rw [O] at G; cases G; rfl
 ·exact absurd a3 (G j t O Y)
 ·exact absurd c3 (O i u G Z)
 ·rfl
def oI (b c : Bounds) : Prop := b.Low ≤ c.Low ∧ b.High ≤ c.High
def tH (l m : List Level) : Prop := l.length = m.length ∧ ∀ (j : Nat) (y z : Level), l[j]? = some y → m[j]? = some z → oI y.Bounds z.Bounds
theorem aK {s : Sg} {f : List Piece} {O : List Batch} {p : List Product} (hs : SegG s) (hf : FillOk s.Capacity f) (hp : ProdsOk p) (hb : BatsOk p.length O) {r B : Int} {b c : Bounds} (G : r ≠ 0 ∧ -1000 ≤ r ∧ r ≤ 1000) (hB : 0 ≤ B ∧ B ≤ 1000000000000000) (Y : Bd B b) (Z : Bd B c) (ad : oI b c)
  {l m : List Level} (h : F7 s f O p r b = some (l, 0)) (h' : F7 s f O p r c = some (m, 0)) : tH l m := by
 obtain ⟨q, aa, ab, ac⟩ := kN hf hb
 obtain ⟨W, hW, hP, hA⟩ := Ry hs hf hp aa ab ac
 obtain ⟨b1, b2, b3⟩ := Y
 obtain ⟨c1, c2, c3⟩ := Z
 obtain ⟨e1, e2⟩ := ad
 have e := hA r b G.1 G.2.1 G.2.2 b1 (by omega) (by omega)
 have e' := hA r c G.1 G.2.1 G.2.2 c1 (by omega) (by omega)
 rw [h] at e
 rw [h'] at e'
 have g := (Prod.mk.inj (Option.some.inj e)).1
 have g' := (Prod.mk.inj (Option.some.inj e')).1
 subst g g'
 refine ⟨by rw [Fq, Fq], fun j y z hy hz => ?_⟩
 have hj := (gs hy).1
 rw [Fq] at hj
 rw [N7 _ _ _ _ _ hj] at hy hz
 have gy := Option.some.inj hy
 have gz := Option.some.inj hz
 subst gy gz
 simp only [Zd, oI]
 exact ⟨by omega, by omega⟩
structure More (n n' : Network) (p p' : Plan) : Prop where
 nodes : n'.Nodes = n.Nodes
 segs : n'.Segments = n.Segments
 sts : n'.Stations = n.Stations
 rates : p'.Rates = p.Rates
 prts : p'.Ports = p.Ports
 pl : n'.Ports.length = n.Ports.length
 ports : ∀ (i : Nat) (q q' : Port), n.Ports[i]? = some q → n'.Ports[i]? = some q' → q'.Node = q.Node ∧ q.Pressure ≤ q'.Pressure
 pumps : ∀ j : Nat, p.Pumps[j]? = some true → p'.Pumps[j]? = some true
section
variable {n n' : Nw} {b : List Batch} {pr : List Product} {f : List (List Piece)} {p p' : Plan} {x x' : Pressures}
theorem More.fl (h : More n n' p p') {i : Nat} {s : Sg} {r : Int} : Flw n' p' i s r ↔ Flw n p i s r := by
 constructor
 ·rintro ⟨G, O, Y⟩; rw [h.segs] at G; rw [h.rates] at O; exact ⟨G, O, Y⟩
 ·rintro ⟨G, O, Y⟩; exact ⟨by rw [h.segs]; exact G, by rw [h.rates]; exact O, Y⟩
theorem Mi (t : Sn) (o : Int) : 0 ≤ Gc t o := by unfold Gc; omega
theorem More.ent (hn : NetOk n) (h : More n n' p p') {v : Int} {c c' d d' : Bounds} (hc : oI c c') (h1 : bZ n p v c d) (h2 : bZ n' p' v c' d') : oI d d' := by
 have ho : Gd n' p' v = Gd n p v := by unfold Gd; rw [h.segs, h.rates]
 unfold bZ at h2
 rw [ho, h.sts] at h2
 obtain ⟨e1, e2⟩ := hc
 rcases h1 with ⟨j, t, O, Y, Z, rfl⟩ | ⟨O, rfl⟩ <;> rcases h2 with ⟨i, u, G, c2, c3, rfl⟩ | ⟨G, rfl⟩
 ·have := N1 hn O G (by rw [Y, c2])
  subst this
  rw [O] at G; cases G
  exact ⟨by dsimp only; omega, by dsimp only; omega⟩
 ·exact absurd (h.pumps j Z) (G j t O Y)
 ·have := Mi u (Gd n p v)
  exact ⟨by dsimp only; omega, by dsimp only; omega⟩
 ·exact ⟨e1, e2⟩
theorem qS (hw : W21 n b pr f) (hw' : W21 n' b pr f) (hp : FlowOk n p) (hp' : FlowOk n' p') (Z : More n n' p p') (hS : Sol n b pr f p x) (hS' : Sol n' b pr f p' x') :
  (∀ (v : Nat) (c c' : Bounds), x.Nodes[v]? = some c → x'.Nodes[v]? = some c' → oI c c') ∧ ∀ (i : Nat) (l l' : List Level), x.Segments[i]? = some l → x'.Segments[i]? = some l' → tH l l' := by
 have hn := hw.net
 have hfl := hw.fills.len; have hrl := hp.rl
 obtain ⟨ord, _, hT, hfull⟩ := R4 hn hp
 have main : ∀ (k v : Nat), ord[k]? = some (v : Int) → (∀ c c' : Bounds, x.Nodes[v]? = some c → x'.Nodes[v]? = some c' → oI c c') ∧ ∀ (i : Nat) (s : Sg) (r : Int) (l l' : List Level), Flw n p i s r → (Bn s r).1 = (v : Int) → x.Segments[i]? = some l → x'.Segments[i]? = some l' → tH l l' := by
  intro k
  induction k using Nat.strongRecOn with
  | ind k ih =>
   intro v hv
   have hvr := hT.rng _ (mg hv)
   obtain ⟨kb, c, g1, g2, g3⟩ := hS.nodes v (by omega)
   obtain ⟨kb', c', g1', g2', Y⟩ := hS'.nodes v (by rw [Z.nodes]; omega)
   have lower : ∀ d', Come n' p' x'.Segments (fun _ => True) (fun _ => True) (v : Int) d' → ∃ d, Come n p x.Segments (fun _ => True) (fun _ => True) (v : Int) d ∧ oI d d' := by
    rintro d' (⟨i, q', a, _, h1, h2, h3, h4, rfl⟩ | ⟨i, s, r, O, _, h1, h2, h3, rfl⟩)
    ·have hil := (gs h1).1
     have hpl := Z.pl
     have hq : n.Ports[i]? = some (n.Ports[i]'(by omega)) := gq _
     obtain ⟨e1, e2⟩ := Z.ports i _ _ hq h1
     rw [Z.prts] at h2
     exact ⟨_, .inl ⟨i, _, a, trivial, hq, h2, h3, by omega, rfl⟩, e2, e2⟩
    ·have G := Z.fl.1 h1
     obtain ⟨lv, l1, l2, _⟩ := hS.segs i s r G
     have hfr := hT.topo k _ hv i s r G h2
     obtain ⟨j, hj⟩ := List.getElem?_of_mem hfr
     rw [List.getElem?_take] at hj
     split at hj
     ·rename_i hjk
      obtain ⟨a, t, ha, ht, hal, htl, hat⟩ := Gj hn G
      rw [ha] at hj
      obtain ⟨_, hi⟩ := ih j hjk a hj
      obtain ⟨q1, q2⟩ := hi i s r lv O G ha l1 h3
      refine ⟨_, .inr ⟨i, s, r, lv, trivial, G, h2, l1, rfl⟩, ?_⟩
      unfold Ik
      split
      ·have e1 : lv[lv.length - 1]? = some (lv[lv.length - 1]'(by omega)) := gq _
       have e2 : O[lv.length - 1]? = some (O[lv.length - 1]'(by omega)) := gq _
       rw [← q1, e1, e2]
       exact q2 _ _ _ e1 e2
      ·have e1 : lv[0]? = some (lv[0]'(by omega)) := gq _
       have e2 : O[0]? = some (O[0]'(by omega)) := gq _
       rw [e1, e2]
       exact q2 _ _ _ e1 e2
     ·cases hj
   have upper : ∀ d, Come n p x.Segments (fun _ => True) (fun _ => True) (v : Int) d → kb' = true := by
    rintro d (⟨i, q, a, _, h1, h2, h3, h4, rfl⟩ | ⟨i, s, r, lv, _, h1, h2, h3, rfl⟩)
    ·have hil := (gs h1).1
     have hpl := Z.pl
     have hq : n'.Ports[i]? = some (n'.Ports[i]'(by omega)) := gq _
     obtain ⟨e1, e2⟩ := Z.ports i _ _ h1 hq
     exact Y.kn.2 ⟨_, .inl ⟨i, _, a, trivial, hq, by rw [Z.prts]; exact h2, h3, by omega, rfl⟩⟩
    ·obtain ⟨O, l1, _⟩ := hS'.segs i s r (Z.fl.2 h1)
     exact Y.kn.2 ⟨_, .inr ⟨i, s, r, O, trivial, Z.fl.2 h1, h2, l1, rfl⟩⟩
   have hcc : oI c c' := by
    cases hkb' : kb' with
    | true =>
     rw [hkb'] at Y
     obtain ⟨d1, a1, a2⟩ := Y.lo rfl
     obtain ⟨d2, a3, a4⟩ := Y.hi rfl
     obtain ⟨u1, m1, m2⟩ := lower d1 a1
     obtain ⟨u2, m3, m4⟩ := lower d2 a3
     have t1 := g3.le (g3.kn.2 ⟨_, m1⟩) _ m1
     have t2 := g3.le (g3.kn.2 ⟨_, m3⟩) _ m3
     unfold oI at m2 m4 ⊢
     omega
    | false =>
     have hkb : kb = false := by
      cases hk : kb with
      | false => rfl
      | true =>
       obtain ⟨d, hd⟩ := g3.kn.1 hk
       rw [upper d hd] at hkb'; cases hkb'
     rw [g3.no hkb, Y.no hkb']
     exact ⟨Int.le_refl _, Int.le_refl _⟩
   refine ⟨fun d d' hd hd' => by rw [g2] at hd; rw [g2'] at hd'; cases hd; cases hd'; exact hcc, fun i s r l l' G ho hl hl' => ?_⟩
   obtain ⟨lv, l1, _, w, bd, e, fi, m1, m2, m3, m4, m5, m6⟩ := hS.segs i s r G
   obtain ⟨O, l1', _, w', bd', e', fi', m1', m2', m3', m4', m5', m6'⟩ := hS'.segs i s r (Z.fl.2 G)
   rw [hl] at l1; cases l1
   rw [hl'] at l1'; cases l1'
   have hwv : w = v := by omega
   have hwv' : w' = v := by omega
   subst hwv hwv'
   rw [g2] at m3; cases m3
   rw [g2'] at m3'; cases m3'
   rw [m5] at m5'; cases m5'
   have hil := (gs G.seg).1
   have hsg := hn.segs1
   have hrg := hp.rng i r s G.rate G.seg
   exact aK ((hn.segs i s G.seg).g (by omega)) (hw.fills.all i fi s m5 G.seg) hw.prods hw.bats ⟨G.ne, hrg.1, hrg.2.1⟩ (by omega)
    (hS.inv.ent (b := b) hn hp (by omega) g2 m4) (hS'.inv.ent (b := b) hw'.net hp' (by omega) g2' m4') (Z.ent hn hcc m4 m4') m6 m6'
 constructor
 ·intro v c c' hc hc'
  have hvl := (gs hc).1
  rw [hS.inv.nl] at hvl
  obtain ⟨k, hk⟩ := List.getElem?_of_mem (hfull v hvl)
  exact (main k v hk).1 c c' hc hc'
 ·intro i l l' hl hl'
  have hil := (gs hl).1
  rw [hS.inv.sl] at hil
  have hs : n.Segments[i]? = some n.Segments[i] := gq _
  have hr : p.Rates[i]? = some (p.Rates[i]'(by omega)) := gq _
  by_cases h0 : p.Rates[i]'(by omega) = 0
  ·have e1 := hS.segs0 i l (by rw [hr, h0]) hl
   have e2 := hS'.segs0 i l' (by rw [Z.rates, hr, h0]) hl'
   subst e1 e2
   exact ⟨rfl, fun j y z h => by simp at h⟩
  ·have G : Flw n p i n.Segments[i] (p.Rates[i]'(by omega)) := ⟨hs, hr, h0⟩
   obtain ⟨a, t, ha, ht, hal, htl, hat⟩ := Gj hn G
   obtain ⟨k, hk⟩ := List.getElem?_of_mem (hfull a hal)
   exact (main k a hk).2 i _ _ l l' G ha hl hl'
theorem Sf (hw : W21 n b pr f) (hp : FlowOk n p) (hS : Sol n b pr f p x) (G : Sol n b pr f p x') : x = x' := by
 have hn := hw.net
 have hm : More n n p p := ⟨rfl, rfl, rfl, rfl, rfl, rfl, fun i q q' Z O => by rw [Z] at O; cases O; exact ⟨rfl, Int.le_refl _⟩, fun _ h => h⟩
 have r1 := qS hw hw hp hp hm hS G
 have r2 := qS hw hw hp hp hm G hS
 have k1 := hS.inv.kl; have k2 := hS.inv.nl; have k3 := hS.inv.sl
 have k1' := G.inv.kl; have k2' := G.inv.nl; have k3' := G.inv.sl
 have hrl := hp.rl
 have hN : x.Nodes = x'.Nodes := by
  refine List.ext_getElem? fun v => ?_
  by_cases hv : v < n.Nodes.length
  ·have Z : x.Nodes[v]? = some (x.Nodes[v]'(by omega)) := gq _
   have O : x'.Nodes[v]? = some (x'.Nodes[v]'(by omega)) := gq _
   have a := r1.1 v _ _ Z O
   have c := r2.1 v _ _ O Z
   rw [Z, O]
   congr 1
   revert a c
   generalize x.Nodes[v]'(by omega) = u
   generalize x'.Nodes[v]'(by omega) = w
   obtain ⟨u1, u2⟩ := u
   obtain ⟨w1, w2⟩ := w
   rintro ⟨a1, a2⟩ ⟨c1, c2⟩
   dsimp only at a1 a2 c1 c2
   rw [show u1 = w1 by omega, show u2 = w2 by omega]
  ·rw [List.getElem?_eq_none (by omega), List.getElem?_eq_none (by omega)]
 have hK : ∀ w : Nat, w < n.Nodes.length → (x.Known[w]? = some true ↔ x'.Known[w]? = some true) := by
  have one : ∀ {y z : Pressures}, Sol n b pr f p y → Sol n b pr f p z → ∀ w : Nat, w < n.Nodes.length → y.Known[w]? = some true → z.Known[w]? = some true := by
   intro y z hy hz w Y h
   obtain ⟨k, c, g1, g2, g3⟩ := hy.nodes w Y
   obtain ⟨k', c', g1', g2', g3'⟩ := hz.nodes w Y
   rw [h] at g1
   cases g1
   obtain ⟨d, hd⟩ := g3.kn.1 rfl
   rw [g1']
   congr 1
   rcases hd with ⟨i, q, a, _, h1, h2, h3, h4, _⟩ | ⟨i, s, r, lv, _, h1, h2, _⟩
   ·exact g3'.kn.2 ⟨_, .inl ⟨i, q, a, trivial, h1, h2, h3, h4, rfl⟩⟩
   ·obtain ⟨lv', l1, _⟩ := hz.segs i s r h1
    exact g3'.kn.2 ⟨_, .inr ⟨i, s, r, lv', trivial, h1, h2, l1, rfl⟩⟩
  exact fun w Y => ⟨one hS G w Y, one G hS w Y⟩
 have hKn : x.Known = x'.Known := by
  refine List.ext_getElem? fun v => ?_
  by_cases hv : v < n.Nodes.length
  ·have Z : x.Known[v]? = some (x.Known[v]'(by omega)) := gq _
   have O : x'.Known[v]? = some (x'.Known[v]'(by omega)) := gq _
   have := hK v hv
   rw [Z, O] at this ⊢
   simp only [Option.some.injEq] at this ⊢
   exact Bool.eq_iff_iff.2 this
  ·rw [List.getElem?_eq_none (by omega), List.getElem?_eq_none (by omega)]
 have hSg : x.Segments = x'.Segments := by
  refine List.ext_getElem? fun i => ?_
  by_cases hi : i < n.Segments.length
  ·have Z : x.Segments[i]? = some (x.Segments[i]'(by omega)) := gq _
   have O : x'.Segments[i]? = some (x'.Segments[i]'(by omega)) := gq _
   have hs : n.Segments[i]? = some n.Segments[i] := gq _
   have hr : p.Rates[i]? = some (p.Rates[i]'(by omega)) := gq _
   by_cases h0 : p.Rates[i]'(by omega) = 0
   ·rw [Z, O, hS.segs0 i _ (by rw [hr, h0]) Z, G.segs0 i _ (by rw [hr, h0]) O]
   ·obtain ⟨lv, l1, _, w, bd, e, fi, m1, m2, m3, m4, m5, m6⟩ := hS.segs i _ _ ⟨hs, hr, h0⟩
    obtain ⟨lv', l1', _, w', bd', e', fi', m1', m2', m3', m4', m5', m6'⟩ := G.segs i _ _ ⟨hs, hr, h0⟩
    have hww : w = w' := by omega
    subst hww
    rw [hN, m3'] at m3; cases m3
    rw [m5'] at m5; cases m5
    have := aD hn m4 m4'
    subst this
    rw [m6'] at m6
    rw [l1, l1', (Prod.mk.inj (Option.some.inj m6)).1]
  ·rw [List.getElem?_eq_none (by omega), List.getElem?_eq_none (by omega)]
 obtain ⟨K, N, S⟩ := x
 obtain ⟨K', N', S'⟩ := x'
 simp only at hN hKn hSg
 rw [hN, hKn, hSg]
end
theorem Zs (s : Sg) (r : Int) : Fg s r = Bn s r := rfl
theorem tM (r : Int) (h : -1000 ≤ r ∧ r ≤ 1000) : F8 r = max r (-r) := by
 unfold F8
 rw [Av (by omega)]
 congr 1; omega
theorem dD {k : Nat} (G : k < 26) : Gq (nm 115 k) = some true := by
 rcases jX G with rfl | rfl | rfl | rfl | rfl | rfl | rfl | rfl | rfl | rfl | rfl | rfl | rfl | rfl | rfl | rfl | rfl | rfl | rfl | rfl | rfl | rfl | rfl | rfl | rfl | rfl <;> kernel_rfl
theorem cW {n : Nw} {p : Plan} (hn : NetOk n) (hp : FlowOk n p) (v : Int) : M2 n p v = some (Gd n p v) ∧ 0 ≤ Gd n p v ∧ Gd n p v ≤ 32000 := by
 have h1 := hn.segs1; have h2 := hp.rl
 refine ⟨?_, (N3 (b := []) (pr := []) (f := []) (K := []) (N := []) (S := []) hn hp v).2⟩
 have : Ok (M2 n p v) fun r => r = Gd n p v := by
  unfold M2
  refine .bind (.forS (fun k (O : Int) => (0 ≤ O ∧ O ≤ 1000 * k) ∧ O + Sp v (n.Segments.drop k) (p.Rates.drop k) = Gd n p v) ⟨⟨by omega, by omega⟩, by simp [Gd]⟩ ?_ fun O h => h) ?_
  ·rintro k s O hs ⟨⟨i1, i2⟩, G⟩
   have hk := (gs hs).1
   have hr : p.Rates[k]? = some (p.Rates[k]'(by omega)) := gq _
   have hg := hp.rng k _ s hr hs
   rw [Jp hs, Jp hr] at G
   simp only [Sp] at G
   unfold M2.B2 M2.J3
   refine .bind' (.eq (Bb hr) (C6 (fun Y => .pure ⟨⟨i1, by omega⟩, ?_⟩) fun Y => ?_))
   ·dsimp only at Y
    rw [Y] at G
    simp at G; omega
   ·dsimp only
    rw [Zs, tM _ ⟨hg.1, hg.2.1⟩]
    refine C6 (fun Z => .pure ?_) fun Z => .pure ⟨⟨i1, by omega⟩, ?_⟩
    ·rw [if_pos Z] at G
     rw [Av (by omega)]
     omega
    ·rw [if_neg Z] at G
     omega
  ·rintro O ⟨⟨i1, i2⟩, G⟩
   unfold M2.J1
   have hd : Sp v (n.Segments.drop n.Segments.length) (p.Rates.drop n.Segments.length) = 0 := by simp [Sp]
   rw [hd] at G
   exact .pure (by rw [← G]; simp)
 obtain ⟨r, h, rfl⟩ := this
 exact h
theorem pU {k nodes : Nat} {s : Sn} (G : StOk nodes k s) (hk : k < 26) (hn : nodes ≤ 24) {rate : Int} (O : 0 ≤ rate ∧ rate ≤ 32000) : Vr s rate = some (Gc s rate, 0) := by
 have h1 := G.node; have h2 := G.head; have Z := G.fall; have h4 := G.suction
 have m1 : 0 ≤ s.Fall * rate := Int.mul_nonneg Z.1 O.1
 have m2 := Ed (a := s.Fall) (b := rate) (A := 100000) (B := 32000) (by omega) (by omega)
 have Y : 0 ≤ s.Fall * rate * rate := Int.mul_nonneg m1 O.1
 have m4 := Ed (a := s.Fall * rate) (b := rate) (A := 3200000000) (B := 32000) (by omega) (by omega)
 have dd := Es (a := s.Fall * rate * rate) (b := 1000) (by decide)
 have d0 := Tn (a := s.Fall * rate * rate) (b := 1000) (by decide) Y
 have hv : Qe s = some true := by
  unfold Qe Qe.J1
  rw [G.name, dD hk]
  simp only [Option.bind_some, if_true]
  rw [if_pos (by simp; omega), if_pos (by simp; omega), if_pos (by simp; omega), if_pos (by simp; omega), if_pos (by simp; omega), if_pos (by simp; omega), if_pos (by simp; omega)]
  simp; omega
 have ht : (s.Fall * rate * rate).tdiv 1000 = dn (s.Fall * rate * rate) 1000 := by
  unfold dn
  exact Int.tdiv_eq_ediv_of_nonneg Y
 unfold Vr
 rw [hv]
 simp only [Option.bind_some, Bool.not_true, Bool.false_eq_true, if_false]
 rw [if_neg (by simp; omega), Av (x := s.Fall * rate) (by omega), Av (x := s.Fall * rate * rate) (by omega), ht, Av (x := dn _ _) (by omega), Av (by omega)]
 rfl
theorem pA {k nodes : Nat} {s : Sn} (Z : StOk nodes k s) (G : k < 26) (O : nodes ≤ 24) {b : Bounds} {B rate : Int} (hB : 0 ≤ B ∧ B ≤ 1000000000000000) (hb : Bd B b) (Y : 0 ≤ rate ∧ rate ≤ 32000) :
  Vq s b rate = some (⟨b.Low + Gc s rate, b.High + Gc s rate⟩, 0) := by
 obtain ⟨_, r1, r2, r3⟩ := Rj Z G O hB hb Y
 obtain ⟨b1, b2, b3⟩ := hb
 dsimp only at r1 r2 r3
 have h0 := Mi s rate
 unfold Vq
 rw [pU Z G O Y]
 simp only [Option.bind_some, bne_self_eq_false, Bool.false_eq_true, if_false]
 rw [if_neg (by unfold Ga; simp; omega), Av (x := b.Low + _) (by omega), Av (x := b.High + _) (by omega)]
theorem Su {n : Nw} (h1 : n.Segments.length ≤ 1000) (h2 : n.Ports.length ≤ 1000) (G : n.Stations.length ≤ 1000) :
  Ok (Qo n) fun r => r.l = [n.Nodes, n.Segments.map (·.Name), n.Ports.map (·.Name), n.Stations.map (·.Name)] := by
 unfold Qo
 refine .bind (Jg (g := (·.Name)) (fun _ _ _ => rfl) h1) ?_
 rintro _ rfl
 unfold Qo.J1
 refine .bind (Jg (g := (·.Name)) (fun _ _ _ => rfl) h2) ?_
 rintro _ rfl
 unfold Qo.J2
 refine .bind (Jg (g := (·.Name)) (fun _ _ _ => rfl) G) ?_
 rintro _ rfl
 unfold Qo.J3
 exact .pure rfl
theorem tA {x : Int} (h : -1000000 ≤ x ∧ x ≤ 1000000) : F8 x = max x (-x) := by
 unfold F8
 rw [Av (by omega), Int.zero_sub]
theorem I1 {s : Sg} {r : Int} : Fg s r = Bn s r := rfl
structure Sum16 (b : Int) (st : Int × Int) (d : Int) : Prop where
 come : 0 ≤ st.1 ∧ st.1 ≤ b
 leave : 0 ≤ st.2 ∧ st.2 ≤ b
 diff : st.1 - st.2 = d
theorem cN {n : Nw} (hn : NetG n) {p : Plan} (h4 : p.Rates.length = n.Segments.length) (h5 : p.Ports.length = n.Ports.length) (hr : ∀ (k : Nat) (r : Int), p.Rates[k]? = some r → -1000 ≤ r ∧ r ≤ 1000)
  (hp : ∀ (k : Nat) (x : Int), p.Ports[k]? = some x → -1000 ≤ x ∧ x ≤ 1000) (v : Nat) : Ok (Qr n p (v : Int)) fun r => r.1 - r.2 = G1 (wt n v) p.Rates + G1 (wp n v) p.Ports := by
 have h2 := hn.segs1; have h3 := hn.ports1
 unfold Qr
 refine .bind (.forS (fun k (st : Int × Int) => Sum16 (1000 * k) st (G1 (wt n v) (p.Rates.take k))) ⟨by simp, by simp, by simp [Jh]⟩ ?_ fun st h => h) ?_
 ·rintro k s ⟨a, b⟩ hs ⟨i1, i2, i3⟩
  dsimp only at i1 i2 i3
  have hkl := (gs hs).1
  have G : p.Rates[k]? = some p.Rates[k] := gq (by omega)
  have Z := hr k _ G
  have he := (hn.segs k s hs).ends
  have Y := Fw (w := wt n v) (a := ind s.To v - ind s.From v) (by unfold wt; rw [List.getElem?_map, hs]; rfl) G
  generalize p.Rates[k] = r at G Z Y
  unfold Qr.B5
  refine .bind' (.eq (Bb G) (C6 (fun h0 => ?_) fun h0 => ?_))
  ·dsimp only at h0
   subst h0
   unfold Qr.J6
   rw [Y]
   exact .pure ⟨by dsimp only; omega, by dsimp only; omega, by simp; omega⟩
  dsimp only at h0 ⊢
  have ha := tA (x := r) (by omega)
  rw [ha]
  have j7 : ∀ (j : Int), 0 ≤ j ∧ j ≤ 1000 * k + 1000 → ∀ l : Int, l = ind (Bn s r).1 v → j = b + max r (-r) * l → Ok (Qr.J7 (v : Int) s (a, b) (k, r) j) fun st => Sum16 (1000 * ((k + 1 : Nat) : Int)) st (G1 (wt n v) (p.Rates.take (k + 1))) := by
   intro j hj l hl hjl
   unfold Qr.J7 Qr.J6
   dsimp only
   rw [ha, I1]
   have fin : ∀ c : Int, c = ind (Bn s r).2 v → a + max r (-r) * c - j = G1 (wt n v) (p.Rates.take (k + 1)) := by
    intro c hc
    subst hc; subst hl; subst hjl
    rw [Y]
    rcases Kn (s := s) h0 with ⟨e, hr0⟩ | ⟨e, hr0⟩
    ·rw [e]
     dsimp only
     rw [show max r (-r) = -r by omega, Int.neg_mul, Int.neg_mul, Int.sub_mul, Int.mul_comm r, Int.mul_comm r]; omega
    ·rw [e]
     dsimp only
     rw [show max r (-r) = r by omega, Int.sub_mul, Int.mul_comm r, Int.mul_comm r]; omega
   refine C6 (fun O => .pure ?_) fun O => .pure ?_
   ·rw [Av (by omega)]
    have := fin 1 (by rw [O, Iy])
    exact ⟨by dsimp only; omega, by dsimp only; omega, by dsimp only; omega⟩
   ·have := fin 0 (by rw [Ip O])
    exact ⟨by dsimp only; omega, by dsimp only; omega, by dsimp only; omega⟩
  rw [I1]
  refine C6 (fun O => j7 _ ?_ 1 (by rw [O, Iy]) ?_) fun O => j7 _ ?_ 0 (by rw [Ip O]) ?_
  ·rw [Av (by omega)]; omega
  ·rw [Av (by omega)]; omega
  ·omega
  ·omega
 ·rintro ⟨a, b⟩ hi
  rw [List.take_of_length_le (by omega)] at hi
  unfold Qr.J1
  refine .bind (.forS (fun k (st : Int × Int) => Sum16 (8000 + 1000 * k) st (G1 (wt n v) p.Rates + G1 (wp n v) (p.Ports.take k))) ⟨by have := hi.come; dsimp only at this ⊢; omega, by have := hi.leave; dsimp only at this ⊢; omega, by have := hi.diff; dsimp only at this ⊢; simp [Jh]; omega⟩ ?_ fun st h => h) ?_
  ·rintro k s ⟨a, b⟩ hs ⟨i1, i2, i3⟩
   dsimp only at i1 i2 i3
   have hkl := (gs hs).1
   have G : p.Ports[k]? = some p.Ports[k] := gq (by omega)
   have Z := hp k _ G
   have Y := Fw (w := wp n v) (a := ind s.Node v) (by unfold wp; rw [List.getElem?_map, hs]; rfl) G
   generalize p.Ports[k] = r at G Z Y
   unfold Qr.B3 Qr.J4
   refine C6 (fun O => .bind' (.eq (Bb G) (.pure ?_))) fun O => .pure ?_
   ·rw [O, Iy] at Y
    dsimp only
    rw [Av (x := 0 - r) (by omega), Av (by omega), Av (by omega), Y]
    exact ⟨by dsimp only; omega, by dsimp only; omega, by dsimp only; omega⟩
   ·rw [Ip O] at Y
    rw [Y]
    exact ⟨by dsimp only; omega, by dsimp only; omega, by dsimp only; omega⟩
  ·rintro ⟨a, b⟩ hi
   rw [List.take_of_length_le (by omega)] at hi
   unfold Qr.J2
   exact .pure hi.diff
def kE (n : Nw) (p : Plan) (G : List Bool) (k : Nat) : Prop :=
 G[k]? = some false ∧ ∀ (i : Nat) (s : Sg) (r : Int) (f : Nat), n.Segments[i]? = some s → p.Rates[i]? = some r → r ≠ 0 → (Bn s r).1 = (f : Int) → (Bn s r).2 = (k : Int) → G[f]? = some true
theorem lT {c : UInt8} (hc : c = 110 ∨ c = 103 ∨ c = 113 ∨ c = 115) {k : Nat} (G : k < 26) : Gq (nm c k) = some true := by
 rcases hc with rfl | rfl | rfl | rfl <;>
  rcases jX G with rfl | rfl | rfl | rfl | rfl | rfl | rfl | rfl | rfl | rfl | rfl | rfl | rfl | rfl | rfl | rfl | rfl | rfl | rfl | rfl | rfl | rfl | rfl | rfl | rfl | rfl <;> kernel_rfl
theorem lF {l : List Bt} (hl : l.length ≤ 1000) (Z : ∀ (i j : Nat) (x y : Bt), l[i]? = some x → l[j]? = some y → S0 x y = true → i = j) : Nx l = some false := by
 have : Ok (Nx l) fun r => r = false := by
  unfold Nx
  refine .bind' (.forL (fun _ _ => True) (fun _ => False) trivial ?_ (fun _ _ => .pure rfl) fun _ h => h.elim)
  intro k x _ O _
  have hkl := (gs O).1
  unfold Nx.B2
  refine .bind (Q := fun d : Bool ⊕ Unit => d = .inr ()) ?_ ?_
  ·refine .loop (fun G : Int => 0 ≤ G ∧ G ≤ (k : Int)) (fun G => k - G.toNat) ⟨by omega, by omega⟩ (by omega) ?_
   rintro G ⟨Y, h3⟩
   unfold Nx.B4
   refine A7 (fun hlt => .bind' (.ix' Y (by omega) fun j y hj hy => Bc (fun he => ?_) fun _ => .pure ?_)) fun _ => .pure rfl
   ·have := Z k j x y O hy he
    omega
   ·rw [Av (by omega)]
    exact ⟨⟨by omega, by omega⟩, by omega⟩
  ·rintro _ rfl
   exact .pure trivial
 obtain ⟨r, h, rfl⟩ := this
 exact h
theorem lP {nodes k : Nat} {s : Sg} (h : SegOk nodes k s) : Np s = some true := by
 have : Ok (Np s) fun r => r = true := by
  have O := h.points
  have h1 := h.ends; have h2 := h.cap; have h3 := h.resist; have h4 := h.wave; have h5 := O.len
  have e0 : s.Points[0]? = some s.Points[0] := gq (by omega)
  have el : s.Points[s.Points.length - 1]? = some s.Points[s.Points.length - 1] := gq (by omega)
  have q0 := O.first _ e0; have ql := O.last _ el
  unfold Np
  refine C6 (fun h => by omega) fun _ => De (fun G => by simp [Cn] at G; omega) fun _ => De (fun G => by simp [Cn] at G; omega) fun _ => De (fun G => by simp [Cn] at G; omega) fun _ => ?_
  refine .bind' (.ix 0 rfl (by omega) (Cl (fun h => absurd q0 h) fun _ => ?_))
  rw [Av (by omega)]
  refine .bind' (.ix (s.Points.length - 1) (by omega) (by omega) ?_)
  dsimp only
  rw [ql]
  unfold Np.J1
  refine Bc (fun h => by simp at h) fun _ => .bind' (.forL (fun _ _ => True) (fun _ => False) trivial ?_ (fun _ _ => .pure rfl) fun _ h => h.elim)
  intro i p _ hi _
  have Z := mg hi
  have g1 := O.height p Z; have g2 := O.limit p Z
  have no : Ok (Np.J4 (!(Cn p.Limit 0 100000000))) (Sum.elim (fun _ : Unit => True) fun _ : Bool => False) := by
   unfold Np.J4
   refine De (fun G => by simp [Cn] at G; omega) fun _ => .pure trivial
  unfold Np.B3
  refine A7 (fun h0 => ?_) fun h0 => De (fun G => by simp [Cn] at G; omega) fun _ => no
  rw [Av (by have := (gs hi).1; omega)]
  obtain ⟨j, rfl⟩ : ∃ j, i = j + 1 := ⟨i - 1, by omega⟩
  have Y : j < s.Points.length := by have := (gs hi).1; omega
  have hj : s.Points[j]? = some s.Points[j] := gq Y
  have hup := O.up j _ p hj hi
  refine .bind' (.ix j (by omega) Y (A7 (fun h => by dsimp only at h; omega) fun _ => De (fun G => by simp [Cn] at G; omega) fun _ => no))
 obtain ⟨r, h, rfl⟩ := this
 exact h
theorem Yf {n : Nw} (h : NetV n) (h03 : ∀ l, l ∈ [n.Nodes, n.Segments.map (·.Name), n.Ports.map (·.Name), n.Stations.map (·.Name)] → ∀ (k : Nat) x, l[k]? = some x → Gq x = some true) : Gr n = some 0 := by
 have : Ok (Gr n) fun r => r = 0 := by
  have h1 := h.nodes; have h2 := h.segs1; have h3 := h.ports1; have h4 := h.sts1; have h5 := h.vapour; have h6 := h.settle
  have T : ∀ {α β : Type} {l : List α} {f : Nat → α → Unit → Option (Unit ⊕ β)} {K : Unit ⊕ β → Option β} {P : β → Prop}, (∀ k x, l[k]? = some x → f k x () = some (.inl ())) → Ok (K (.inl ())) P → Ok ((forL f 0 l ()).bind K) P := by
   intro α β l f K P hf hK
   refine .bind' (.forL (fun _ _ => True) (fun _ => False) trivial (fun k x Y G _ => ?_) (fun _ _ => hK) fun _ h => h.elim)
   exact ⟨_, hf k x G, trivial⟩
  unfold Gr
  refine Bc (fun hb => by simp [Cn] at hb; omega) fun _ => T (fun k x G => ?_) ?_
  ·have := (h.segs k x G).choose_spec.points.len
   unfold Gr.B24; rw [if_neg (by simp [Cn]; omega)]
  simp only [Sum.elim_inl]
  unfold Gr.J1
  refine .bind (Su (by omega) (by omega) (by omega)) fun r hr => ?_
  have Z : ∀ (k : Nat) (O : k < 4), r.l[k]'(by rw [hr]; exact O) = ([n.Nodes, n.Segments.map (·.Name), n.Ports.map (·.Name), n.Stations.map (·.Name)])[k]'O := fun k O => by simp only [hr]
  refine .bind' (.forI (fun _ _ => True) (fun _ => False) trivial ?_ ?_ fun _ h => h.elim)
  ·intro k _ O _
   have hl := h03 _ (List.getElem_mem (l := [n.Nodes, n.Segments.map (·.Name), n.Ports.map (·.Name), n.Stations.map (·.Name)]) (n := k) O)
   unfold Gr.B21
   refine .bind' (.ix k rfl (by rw [hr]; exact O) ?_)
   dsimp only
   rw [Z k O]
   refine .bind' (.forL (fun _ _ => True) (fun _ => False) trivial ?_ (fun _ _ => .pure trivial) fun _ h => h.elim)
   intro j x _ G _
   unfold Gr.B23
   rw [hl j x G]
   exact .bind' (.pure (De (fun h => by cases h) fun _ => .pure trivial))
  intro _ _
  simp only [Sum.elim_inl]
  unfold Gr.J2
  refine .bind' (.forI (fun _ _ => True) (fun _ => False) trivial ?_ ?_ fun _ h => h.elim)
  ·intro k _ O _
   have hl := h.named _ (List.getElem_mem (l := [n.Nodes, n.Segments.map (·.Name), n.Ports.map (·.Name), n.Stations.map (·.Name)]) (n := k) O)
   unfold Gr.B20
   refine .bind' (.ix k rfl (by rw [hr]; exact O) ?_)
   dsimp only
   rw [Z k O, lF (by have := hl.1; omega) hl.2.2]
   exact .bind' (.pure (Bc (fun h => by cases h) fun _ => .pure trivial))
  intro _ _
  simp only [Sum.elim_inl]
  unfold Gr.J3
  refine .bind' (.forL (fun _ _ => True) (fun _ => False) trivial ?_ ?_ fun _ h => h.elim)
  ·intro k x _ G _
   have hkl := (gs G).1
   unfold Gr.B17
   refine .bind (Q := fun d : Int ⊕ Unit => d = .inr ()) ?_ ?_
   ·refine .loop (fun Y : Int => 0 ≤ Y ∧ Y ≤ (k : Int)) (fun Y => k - Y.toNat) ⟨by omega, by omega⟩ (by omega) ?_
    rintro Y ⟨h0, h1⟩
    unfold Gr.B19
    refine A7 (fun hlt => .bind' (.ix' h0 (by omega) fun j y hj hy => C6 (fun he => ?_) fun _ => .pure ?_)) fun _ => .pure rfl
    ·have := h.stsUp j k y x (by omega) hy G
     dsimp only at he; omega
    ·rw [Av (by omega)]
     exact ⟨⟨by omega, by omega⟩, by omega⟩
   ·rintro _ rfl
    exact .pure trivial
  intro _ _
  simp only [Sum.elim_inl]
  unfold Gr.J4
  refine T (fun k x G => ?_) ?_
  ·have := (h.segs k x G).choose_spec.ends
   unfold Gr.B16; rw [Av (by omega), if_neg (by simp [Cn]; omega)]
  simp only [Sum.elim_inl]
  unfold Gr.J5
  refine T (fun k x G => ?_) ?_
  ·have := (h.ports k x G).node
   unfold Gr.B15; rw [Av (by omega), if_neg (by simp [Cn]; omega)]
  simp only [Sum.elim_inl]
  unfold Gr.J6
  refine T (fun k x G => ?_) ?_
  ·have := (h.sts k x G).node
   unfold Gr.B14; rw [Av (by omega), if_neg (by simp [Cn]; omega)]
  simp only [Sum.elim_inl]
  unfold Gr.J7
  refine T (fun k x G => ?_) ?_
  ·unfold Gr.B13; rw [lP (h.segs k x G).choose_spec]; rfl
  simp only [Sum.elim_inl]
  unfold Gr.J8
  refine T (fun k x G => ?_) ?_
  ·have := (h.ports k x G).pressure
   unfold Gr.B12; rw [if_neg (by simp [Cn]; omega)]
  simp only [Sum.elim_inl]
  unfold Gr.J9
  refine T (fun k x G => ?_) ?_
  ·have a1 := (h.sts k x G).head; have a2 := (h.sts k x G).fall; have a3 := (h.sts k x G).suction
   unfold Gr.B11; rw [if_neg (by simp [Cn]; omega)]
  simp only [Sum.elim_inl]
  unfold Gr.J10
  exact Bc (fun hb => by simp [Cn] at hb; omega) fun _ => .pure rfl
 obtain ⟨r, h, rfl⟩ := this
 exact h
theorem Wn {n : Nw} (h : NetOk n) : Gr n = some 0 := by
 refine Yf h.v fun l G k x O => ?_
 obtain ⟨c, Y, G⟩ := h.named l G
 have Z := (gs O).1
 rw [G.2 k x O]
 exact lT Y (by have := G.1; omega)
theorem Kk {n : Nw} (hn : NetG n) {p : Plan} (h4 : p.Rates.length = n.Segments.length) (hac : rJ n p) : Ok (H3 n p) fun r => r.length = n.Nodes.length := by
 have h1 := hn.nodes; have h2 := hn.segs1
 unfold H3
 refine .bind' (.mk n.Nodes.length rfl (by omega) ?_)
 refine .bind (Q := fun r : Li => r.length = n.Nodes.length) ?_ fun r hr => .pure hr
 refine .loop (fun st : Li × List Bool => st.2.length = n.Nodes.length ∧ st.1.length = Ze st.2) (fun st => n.Nodes.length - Ze st.2)
  ⟨by simp, by simp [Wm]⟩ (by dsimp only; omega) ?_
 rintro ⟨out, G⟩ ⟨i1, i2⟩
 dsimp only at i1 i2
 have hc := Ko G
 unfold H3.B1
 refine .bind (Q := fun k : Int => (k = -1 ∧ ∀ j : Nat, G[j]? = some false → Gf n p G j) ∨ ∃ j : Nat, k = (j : Int) ∧ G[j]? = some false) ?_ ?_
 ·refine .forS (fun m (k : Int) => (k = -1 ∧ ∀ j : Nat, j < m → G[j]? = some false → Gf n p G j) ∨ ∃ j : Nat, k = (j : Int) ∧ G[j]? = some false) (.inl ⟨rfl, fun j h => absurd h (Nat.not_lt_zero _)⟩) ?_ ?_
  ·intro k x st hx O
   have hkl := (gs hx).1
   have ht : G[k]? = some G[k] := gq (by omega)
   unfold H3.B3
   refine .bind' (.eq (Bb ht) ?_)
   refine .bind (Q := fun b => (b = true → G[k]? = some false) ∧ (b = false → G[k]? = some false → Gf n p G k)) ?_ ?_
   ·refine .forS (fun m (b : Bool) => (b = true → G[k]? = some false) ∧ (b = false → G[k]? = some false → Gf n p G k)) ?_ ?_ fun b h => h
    ·refine ⟨fun Z => ?_, fun Z hf => ?_⟩
     ·rw [ht]; simpa using Z
     ·rw [ht] at hf; simp at hf; simp [hf] at Z
    ·intro i s b hs Z
     have hil := (gs hs).1
     have hr : p.Rates[i]? = some (p.Rates[i]'(by omega)) := gq _
     generalize p.Rates[i]'(by omega) = r at hr
     have he := (hn.segs i s hs).ends
     unfold H3.B6 H3.J7
     refine .bind' (.eq (Bb hr) (Cl (fun hr0 => Bc (fun hbt => Cl (fun Y => .pure ⟨fun _ => Z.1 hbt, fun h => by cases h⟩) fun Y => ?_) fun hbf => .pure ⟨fun h => (by cases h), fun _ => Z.2 hbf⟩) fun _ => .pure Z))
     dsimp only at hr0 Y ⊢
     rw [I1] at Y
     have hfr : 0 ≤ (Bn s r).1 ∧ (Bn s r).1 < (n.Nodes.length : Int) := by
      unfold Bn
      split <;> dsimp only <;> omega
     rw [I1]
     refine .bind' (.ix' hfr.1 (by omega) fun f y hf hy => .pure ⟨fun _ => Z.1 hbt, fun hyf _ => ⟨i, s, r, f, hs, hr, hr0, Y, hf, ?_⟩⟩)
     dsimp only at hy hyf
     rw [hy, hyf]
   ·rintro b ⟨b1, b2⟩
    unfold H3.J5 H3.J4
    refine Bc (fun h => .pure (.inr ⟨k, rfl, b1 ?_⟩)) fun hno => .pure ?_
    ·simp at h; exact h.1
    ·rcases O with ⟨rfl, O⟩ | O
     ·refine .inl ⟨rfl, fun j hj hf => ?_⟩
      by_cases hjk : j = k
      ·subst hjk
       simp at hno
       exact b2 hno hf
      ·exact O j (by omega) hf
     ·exact .inr O
  ·rintro k (⟨rfl, h⟩ | h)
   ·exact .inl ⟨rfl, fun j hj => h j (by have := (gs hj).1; omega) hj⟩
   ·exact .inr h
 ·intro k hk
  unfold H3.J2
  refine A7 (fun hneg => .pure ?_) fun h0 => ?_
  ·rcases hk with ⟨_, h⟩ | ⟨j, rfl, _⟩
   ·have := bV (hac G i1 h)
    simp only [Sum.elim_inr]
    omega
   ·omega
  ·rcases hk with ⟨rfl, _⟩ | ⟨j, rfl, hj1⟩
   ·exact absurd (by decide) h0
   refine .bind' (.app (by simp; omega) (.bind' (.eq (Bb hj1) (.pure ?_))))
   have hcs := Pn hj1
   have hcl := Ko (G.set j true)
   simp at hcl
   exact ⟨⟨by simp [i1], by simp [hcs, i2]⟩, by dsimp only; omega⟩
theorem Wx {n : Nw} (Y : NetOk n) {p : Plan} (O : p.Rates.length = n.Segments.length) (G : rJ n p) : Ok (H3 n p) fun r => r.length = n.Nodes.length := Kk Y.g O G
theorem mI {n : Nw} (Y : NetG n) (h12 : Gr n = some 0) {p : Plan} (h : FlowOk n p) : Kq n p = some 0 := by
 have : Ok (Kq n p) fun r => r = 0 := by
  have h1 := Y.nodes; have h2 := Y.segs1; have h3 := Y.ports1; have h4 := h.rl; have h5 := h.pl; have h6 := h.ml
  have hrr : ∀ (k : Nat) (r : Int), p.Rates[k]? = some r → -1000 ≤ r ∧ r ≤ 1000 := fun k r O => by
   have Z := (gs O).1
   have hs : n.Segments[k]? = some (n.Segments[k]'(by omega)) := gq _
   have := h.rng k r _ O hs
   omega
  unfold Kq
  rw [h12]
  refine .bind' (.pure (Cl (fun h => absurd rfl h) fun _ => Bc (fun G => by simp [h4, h5, h6] at G) fun _ => ?_))
  refine .bind' (.forL (fun _ _ => True) (fun _ => False) trivial ?_ ?_ fun _ h => h.elim)
  ·intro k r _ O _
   have Z := (gs O).1
   have hs : n.Segments[k]? = some n.Segments[k] := gq (by omega)
   have hc := (Y.segs k _ hs).cap
   have hg := h.rng k r _ O hs
   unfold Kq.B6
   refine .bind' (.eq (Bb hs) (Bc (fun G => ?_) fun _ => .pure trivial))
   dsimp only at G
   rw [Av (by omega)] at G
   simp at G; omega
  intro _ _
  simp only [Sum.elim_inl]
  unfold Kq.J1
  refine .bind' (.forL (fun _ _ => True) (fun _ => False) trivial ?_ ?_ fun _ h => h.elim)
  ·intro k x _ hx _
   have := h.prt k x hx
   unfold Kq.B5
   exact Bc (fun G => by simp at G; omega) fun _ => .pure trivial
  intro _ _
  simp only [Sum.elim_inl]
  unfold Kq.J2
  refine .bind' (.forL (fun _ _ => True) (fun _ => False) trivial ?_ ?_ fun _ h => h.elim)
  ·intro k x _ hx _
   have Z := (gs hx).1
   unfold Kq.B4
   refine .bind (cN Y h4 h5 hrr h.prt k) fun r O => Cl (fun hne => ?_) fun _ => .pure trivial
   have := h.bal k (by omega)
   omega
  intro _ _
  simp only [Sum.elim_inl]
  unfold Kq.J3
  exact .bind (Kk Y h4 h.acyc) fun r O => Cl (fun hne => by omega) fun _ => .pure rfl
 obtain ⟨r, h, rfl⟩ := this
 exact h
theorem bW {n : Nw} (G : NetOk n) {p : Plan} (h : FlowOk n p) : Kq n p = some 0 := mI G.g (Wn G) h
theorem oZ {n : Nw} (hn : NetOk n) {p : Plan} (h4 : p.Rates.length = n.Segments.length) {out : Li} {G : List Bool} (i1 : G.length = n.Nodes.length) :
  Ok (forS (H3.B3 n p (out, G)) 0 n.Nodes (-1)) fun k : Int => k = -1 ∨ ∃ j : Nat, k = (j : Int) ∧ kE n p G j := by
 have h1 := hn.nodes; have h2 := hn.segs1
 refine .forS (fun _ (k : Int) => k = -1 ∨ ∃ j : Nat, k = (j : Int) ∧ kE n p G j) (.inl rfl) ?_ fun _ h => h
 intro k x st hx hst
 have hkl := (gs hx).1
 have ht : G[k]? = some G[k] := gq (by omega)
 unfold H3.B3
 refine .bind' (.eq (Bb ht) ?_)
 refine .bind (Q := fun b => b = true → kE n p G k) ?_ ?_
 ·refine .forS (fun m (b : Bool) => b = true → G[k]? = some false ∧ ∀ (i : Nat) (s : Sg) (r : Int) (f : Nat), i < m → n.Segments[i]? = some s → p.Rates[i]? = some r → r ≠ 0 → (Bn s r).1 = (f : Int) → (Bn s r).2 = (k : Int) → G[f]? = some true) ?_ ?_ ?_
  ·intro hb
   refine ⟨?_, fun i s r f hi => absurd hi (Nat.not_lt_zero _)⟩
   rw [ht]
   simpa using hb
  ·intro i s b hs hb
   have hil := (gs hs).1
   have hr : p.Rates[i]? = some p.Rates[i] := gq (by omega)
   have he := (hn.segs i s hs).ends
   have O : ∀ b' : Bool, (b' = true → b = true ∧ (p.Rates[i] ≠ 0 → ∀ f : Nat, (Bn s p.Rates[i]).1 = (f : Int) → (Bn s p.Rates[i]).2 = (k : Int) → G[f]? = some true)) → Ok (H3.J7 b') fun b => b = true → G[k]? = some false ∧ ∀ (j : Nat) (s : Sg) (r : Int) (f : Nat), j < i + 1 → n.Segments[j]? = some s → p.Rates[j]? = some r → r ≠ 0 → (Bn s r).1 = (f : Int) → (Bn s r).2 = (k : Int) → G[f]? = some true := by
    intro b' hb'
    unfold H3.J7
    refine .pure fun Y => ?_
    obtain ⟨hbb, hlast⟩ := hb' Y
    obtain ⟨q1, q2⟩ := hb hbb
    refine ⟨q1, fun j s' r f hj ab aa Z hf ac => ?_⟩
    by_cases hji : j = i
    ·subst hji
     rw [hs] at ab; rw [hr] at aa
     simp at ab aa
     subst ab; subst aa
     exact hlast Z f hf ac
    ·exact q2 j s' r f (by omega) ab aa Z hf ac
   unfold H3.B6
   refine .bind' (.eq (Bb hr) (Cl (fun Z => Bc (fun Y => Cl (fun hto => O _ fun _ => ⟨Y, fun _ f hf ac => absurd ac hto⟩) fun hto => ?_) fun _ => O _ fun h => by cases h) fun Z => O _ fun h => ⟨h, fun h0 => absurd Z h0⟩))
   have hfr : 0 ≤ (Fg s p.Rates[i]).1 ∧ (Fg s p.Rates[i]).1 < (n.Nodes.length : Int) := by
    unfold Fg
    split <;> dsimp only <;> omega
   refine .bind' (.ix' hfr.1 (by dsimp only; omega) fun f y hf hy => O _ fun hy1 => ⟨Y, fun _ f' hf' _ => ?_⟩)
   dsimp only at hf hy hy1
   rw [I1] at hf
   have : f' = f := by omega
   subst this
   rw [hy, hy1]
  ·intro b hb Y
   obtain ⟨q1, q2⟩ := hb Y
   exact ⟨q1, fun i s r f hs => q2 i s r f (gs hs).1 hs⟩
 ·intro b hb
  unfold H3.J5 H3.J4
  refine Bc (fun h => .pure (.inr ⟨k, rfl, hb ?_⟩)) fun _ => .pure hst
  simp at h; exact h.1
theorem Ww {n : Nw} (hn : NetOk n) {p : Plan} (h : FlowOk n p) : Ok (H3 n p) fun r => Topo n p r ∧ ∀ v : Nat, v < n.Nodes.length → (v : Int) ∈ r := by
 have h1 := hn.nodes; have h2 := hn.segs1; have h4 := h.rl
 have key : Ok (H3 n p) fun r => Topo n p r := by
  unfold H3
  refine .bind' (.mk n.Nodes.length rfl (by omega) ?_)
  refine .bind (Q := fun r : Li => Topo n p r) ?_ fun r hr => .pure hr
  refine .loop (fun st : Li × List Bool => st.2.length = n.Nodes.length ∧ st.1.length = Ze st.2 ∧ Topo n p st.1 ∧ ∀ v : Nat, st.2[v]? = some true ↔ (v : Int) ∈ st.1) (fun st => n.Nodes.length - Ze st.2)
   ⟨by simp, by simp [Wm], ⟨by simp, by simp, by simp⟩, fun v => by simp [List.getElem?_replicate]⟩ (by dsimp only; omega) ?_
  rintro ⟨out, O⟩ ⟨i1, i2, i3, i4⟩
  dsimp only at i1 i2 i3 i4
  have hc := Ko O
  unfold H3.B1
  refine .bind (oZ hn h4 i1) fun k Z => ?_
  unfold H3.J2
  refine A7 (fun _ => .pure i3) fun h0 => ?_
  rcases Z with rfl | ⟨j, rfl, Y, hj2⟩
  ·exact absurd (by decide) h0
  have hjl := (gs Y).1
  have hnot : (j : Int) ∉ out := fun hm => by have := (i4 j).2 hm; rw [Y] at this; cases this
  refine .bind' (.app (by simp; omega) (.bind' (.eq (Bb Y) (.pure ?_))))
  have hcs := Pn Y
  have hcl := Ko (O.set j true)
  simp at hcl
  refine ⟨⟨by simp [i1], by simp [hcs, i2], ⟨fun v G => ?_, ?_, fun k v Z i s r hf hto => ?_⟩, fun v => ?_⟩, by dsimp only; omega⟩
  ·dsimp only at G
   rcases List.mem_append.1 G with G | G
   ·exact i3.rng v G
   ·simp at G; omega
  ·dsimp only
   exact List.nodup_append.2 ⟨i3.nodup, by simp, fun a ha b hb he => by simp at hb; subst hb; subst he; exact hnot ha⟩
  ·dsimp only at Z ⊢
   rw [List.getElem?_append] at Z
   split at Z
   ·rename_i hkl
    rw [List.take_append_of_le_length (by omega)]
    exact i3.topo k v Z i s r hf hto
   ·rename_i hkl
    have hl := (gs Z).1
    simp at hl
    have : k = out.length := by omega
    subst this
    simp at Z
    subst Z
    rw [List.take_left]
    obtain ⟨a, c, ha, _, hal, _⟩ := Gj hn hf
    rw [ha]
    exact (i4 a).1 (hj2 i s r a hf.seg hf.rate hf.ne ha hto)
  ·dsimp only
   by_cases G : v = j
   ·subst G
    rw [List.getElem?_set_self (by omega)]; simp
   ·rw [List.getElem?_set_ne (Ne.symm G), i4 v]
    simp; omega
 refine (key.and (Wx hn h4 h.acyc)).mono fun r hr => ⟨hr.1, fun v G => ?_⟩
 obtain ⟨hT, hl⟩ := hr
 refine Classical.byContradiction fun hno => ?_
 have hnd : ((v : Int) :: r).Nodup := List.nodup_cons.2 ⟨hno, hT.nodup⟩
 have := hnd.length_le_of_subset (l₂ := (List.range n.Nodes.length).map fun v : Nat => (v : Int)) fun w hw => by
  rcases List.mem_cons.1 hw with rfl | hw
  ·exact List.mem_map.2 ⟨v, List.mem_range.2 G, rfl⟩
  ·have := hT.rng w hw
   exact List.mem_map.2 ⟨w.toNat, List.mem_range.2 (by omega), by omega⟩
 simp at this; omega
theorem cO {f : List Piece} (h : ∀ p, p ∈ f → 1 ≤ p.Volume) {i j : Nat} (G : i ≤ j) : Dd (f.take i) ≤ Dd (f.take j) := by
 have := (Dn (l := f.take j) (fun p O => h p (List.mem_of_mem_take O)) i).2
 rwa [List.take_take, Nat.min_eq_left G] at this
theorem Le {cap : Int} {f : List Piece} (h : FillOk cap f) (hc : 1 ≤ cap ∧ cap ≤ 1000) : K1 f = some true := by
 have hl := h.len; have hs := h.sum
 have : Ok (K1 f) fun r => r = true := by
  unfold K1
  refine A7 (fun h => by omega) fun _ => .bind' (.forL (fun k Z => Z = Dd (f.take k)) (fun _ => False) (by simp [Dd]) ?_ ?_ fun _ h => h.elim)
  ·rintro k x _ G rfl
   have O := mg G
   have h1 := h.vol x O; have h2 := h.bat x O; have h3 := Tc h O
   have h4 := Dn h.vol (k + 1)
   have h5 := Ew G
   have no : Ok (K1.J3 x (Dd (f.take k)) false) (Sum.elim (fun Z : Int => Z = Dd (f.take (k + 1))) fun _ : Bool => False) := by
    unfold K1.J3; exact .pure (by simp only [Sum.elim_inl]; rw [Av (by omega)]; omega)
   unfold K1.B2
   refine De (fun hh => ?_) fun _ => A7 (fun hh => by omega) fun _ => A7 (fun h0 => by omega) fun _ => A7 (fun h0 => ?_) fun _ => no
   ·simp [Qu] at hh; omega
   ·have hkl := (gs G).1
    have hj : f[k - 1]? = some (f[k - 1]'(by omega)) := gq _
    have Y := h.next (k - 1) _ x hj (by rw [show k - 1 + 1 = k by omega]; exact G)
    rw [show wr ((k : Int) - 1) = ((k - 1 : Nat) : Int) by rw [Av (by omega)]; omega]
    refine .bind' (.eq (Bb hj) ?_)
    dsimp only
    rw [show (x.Batch == f[k - 1].Batch) = false by simpa using fun e => Y e.symm]
    exact no
  ·rintro _ rfl
   simp only [Sum.elim_inl]
   unfold K1.J1
   rw [List.take_of_length_le (Nat.le_refl _)]
   exact .pure (by simp; omega)
 obtain ⟨r, h, rfl⟩ := this
 exact h
theorem X1 {f : List Piece} (h1 : ∀ p, p ∈ f → 1 ≤ p.Volume) (Y : Dd f ≤ 1000000) : Kp f = some (Dd f) := by
 have : Ok (Kp f) fun r => r = Dd f := by
  unfold Kp
  refine .bind (.forS (fun k G => G = Dd (f.take k)) (by simp [Dd]) ?_ fun G h => h) ?_
  ·rintro k x _ O rfl
   unfold Kp.B2
   have := Dn h1 (k + 1)
   rw [Ew O] at this ⊢
   exact .pure (by rw [Av (by omega)])
  ·rintro _ rfl
   unfold Kp.J1
   exact .pure (by rw [List.take_of_length_le (Nat.le_refl _)])
 obtain ⟨r, h, rfl⟩ := this
 exact h
theorem Th {c : UInt8} (hc : c = 103 ∨ c = 112) {k : Nat} (G : k < 26) : Gq (nm c k) = some true := by
 rcases hc with rfl | rfl <;>
  rcases jX G with rfl | rfl | rfl | rfl | rfl | rfl | rfl | rfl | rfl | rfl | rfl | rfl | rfl | rfl | rfl | rfl | rfl | rfl | rfl | rfl | rfl | rfl | rfl | rfl | rfl | rfl <;> kernel_rfl
theorem Z6 {s : Sg} (h : SegG s) : We s = some true := by
 have := Yf (bL h) (by
  unfold Pt
  intro l O k x G
  simp only [List.map_cons, List.map_nil, List.mem_cons, List.not_mem_nil, or_false] at O
  rcases O with rfl | rfl | rfl | rfl
  ·match k, G with
   | 0, G => simp at G; subst G; exact (by kernel_rfl : Gq _ = some true)
   | 1, G => simp at G; subst G; exact (by kernel_rfl : Gq _ = some true)
   | k + 2, G => simp at G
  ·match k, G with
   | 0, G => simp at G; subst G; obtain ⟨j, Y, Z⟩ := h.name; rw [Z]; exact Th (.inl rfl) Y
   | k + 1, G => simp at G
  ·simp at G
  ·simp at G)
 unfold Pt at this
 unfold We
 rw [this]; rfl
theorem Ta {s : Sg} {f : List Piece} (G : SegG s) (hf : FillOk s.Capacity f) : Qj s f = some 0 := by
 have O := G.cap
 unfold Qj Qj.J1
 rw [Z6 G, Le hf O, X1 hf.vol (by have := hf.sum; omega)]
 simp [hf.sum]
theorem Lf {l : List Product} (h : ProdsOk l) : Nm l = some 0 := by
 have hl := h.len
 have : Ok (Nm l) fun r => r = 0 := by
  unfold Nm
  refine A7 (fun h => by omega) fun _ => .bind' (.forL (fun _ _ => True) (fun _ => False) trivial ?_ ?_ fun _ h => h.elim)
  ·intro k x _ O _
   have hk := (gs O).1
   have G := h.all k x O
   have d1 := G.density; have d2 := G.expansion; have d3 := G.compress; have d4 := G.friction
   unfold Nm.B4
   refine .bind (Q := fun r => r = true) ?_ ?_
   ·unfold Vo Vo.J1
    rw [G.name, Th (.inr rfl) (by omega)]
    exact .bind' (.pure (Bc (fun _ => A7 (fun _ => A7 (fun _ => A7 (fun _ => A7 (fun _ => A7 (fun _ => A7 (fun _ => A7 (fun _ => .pure (by simp; omega)) fun h => by omega) fun h => by omega) fun h => by omega) fun h => by omega) fun h => by omega) fun h => by omega) fun h => by omega) fun h => by cases h))
   ·rintro _ rfl
    exact De (fun h => by cases h) fun _ => .pure trivial
  ·intro _ _
   simp only [Sum.elim_inl]
   unfold Nm.J1
   refine .bind' (.forL (fun _ _ => True) (fun _ => False) trivial ?_ (fun _ _ => .pure rfl) fun _ h => h.elim)
   intro k x _ O _
   have hk := (gs O).1
   have G := h.all k x O
   unfold Nm.B3
   refine .bind (Q := fun r => r = (k : Int)) ?_ ?_
   ·unfold V9
    refine .bind (Q := Sum.elim (fun _ : Unit => False) fun r : Int => r = (k : Int)) (.forL (fun j _ => j ≤ k) (fun r => r = (k : Int)) (Nat.zero_le _) ?_ (fun _ hh => by omega) fun _ h => h) ?_
    ·intro j y _ Z hj
     have hjl := (gs Z).1
     unfold V9.B2
     refine Bc (fun Y => .pure ?_) fun Y => .pure ?_
     ·rw [(h.all j y Z).name, G.name] at Y
      have := Zp (by omega) (by omega) Y
      simp only [Sum.elim_inr]; omega
     ·have : j ≠ k := by
       rintro rfl
       rw [O] at Z; cases Z
       rw [Rh] at Y; cases Y
      simp only [Sum.elim_inl]; omega
    ·rintro (_ | r) hr
     ·exact hr.elim
     ·exact .pure hr
   ·rintro _ rfl
    exact Cl (fun h => absurd rfl h) fun _ => .pure trivial
 obtain ⟨r, h, rfl⟩ := this
 exact h
theorem Ld {f : List Piece} {b : List Batch} {p : List Product} {cap : Int} (hf : FillOk cap f) (hb : BatsOk p.length b) : K5 f b p = some true := by
 have : Ok (K5 f b p) fun r => r = true := by
  have O := hb.len
  unfold K5
  refine .bind' (.forL (fun _ _ => True) (fun _ => False) trivial ?_ (fun _ _ => .pure rfl) fun _ h => h.elim)
  intro k x _ Y _
  have G := hf.bat x (mg Y)
  have no : Ok (K5.J3 false) (Sum.elim (fun _ : Unit => True) fun _ : Bool => False) := by unfold K5.J3; exact .pure trivial
  unfold K5.B2
  refine A7 (fun h => by omega) fun _ => .bind' (.ix' G.1 (by omega) fun j y hj Z => ?_)
  have aa := hb.all y (mg Z)
  refine A7 (fun h => by dsimp only at h; omega) fun _ => ?_
  dsimp only
  rw [show decide (y.Product ≥ (p.length : Int)) = false by simp; omega]
  exact no
 obtain ⟨r, h, rfl⟩ := this
 exact h
theorem bH : ∀ {l m : Li}, l.Pairwise (· < ·) → m.Pairwise (· < ·) → (∀ x, x ∈ l ↔ x ∈ m) → l = m
 | [], [], _, _, _ => rfl
 | [], b :: m, _, _, h => by have := (h b).2 (by simp); simp at this
 | a :: l, [], _, _, h => by have := (h a).1 (by simp); simp at this
 | a :: l, b :: m, hl, hm, h => by
  have la := (List.pairwise_cons.1 hl).1
  have mb := (List.pairwise_cons.1 hm).1
  have Z : a = b := by
   have G := (h a).1 (by simp)
   have O := (h b).2 (by simp)
   rcases List.mem_cons.1 G with G | G
   ·exact G
   ·rcases List.mem_cons.1 O with O | O
    ·exact O.symm
    ·have := mb a G; have := la b O; omega
  subst Z
  rw [bH (List.pairwise_cons.1 hl).2 (List.pairwise_cons.1 hm).2 fun x => ?_]
  constructor
  ·intro Y
   have := la x Y
   rcases List.mem_cons.1 ((h x).1 (by simp [Y])) with e | e
   ·omega
   ·exact e
  ·intro Y
   have := mb x Y
   rcases List.mem_cons.1 ((h x).2 (by simp [Y])) with e | e
   ·omega
   ·exact e
end Go.Proofs.YtodeekicjiengaaGreatDoor
