/- Plain proofs. No condition. -/
import Derived.Test.YtehbcbedipkifaaGreatDoorZsP1
import Derived.KernelRfl
import Derived.Test.YtehbcbedipkifaaGreatDoorZsD
import Derived.Test.YtehbcbedipkifaaGreatDoorZsB1
import Derived.ProofKit
import Derived.SizedLaws
import Derived.Carry
import Derived.OpenShut
import Derived.ChangeSame
import Derived.LaidMore
import Derived.MakeChecks
import Derived.Stop.Joined
set_option maxRecDepth 100000
namespace Go.Proofs.YtehbcbedipkifaaGreatDoor
set_option linter.unusedVariables false
set_option linter.unusedSimpArgs false
open Go.Aw
def SegOf (n : Network) (b : List Batch) (pr : List Product) (f : List (List Piece)) (p : Plan) (K : List Bool) (N : List Bounds) (i : Nat) (s : Segment) (r : Int) (lv : List Level) : Prop :=
 ∃ (v : Nat) (bd c : Bounds) (fi : List Piece), (L.flow_Ends s r).1 = (v : Int) ∧ K[v]? = some true ∧ N[v]? = some bd ∧ Ent n p (v : Int) bd c ∧ f[i]? = some fi ∧ L.gradient_Along s fi b pr r c = some (lv, 0)
structure JJ (n : Network) (b : List Batch) (pr : List Product) (f : List (List Piece)) (p : Plan) (P D : Nat → Prop) (K : List Bool) (N : List Bounds) (S : List (List Level)) : Prop where
 nodes : ∀ w : Nat, w < n.Nodes.length → ∃ k c, K[w]? = some k ∧ N[w]? = some c ∧ Mn (Come n p S P D (w : Int)) k c
 segs : ∀ i s r, Fl n p i s r → D i → ∃ lv, S[i]? = some lv ∧ 2 ≤ lv.length ∧ SegOf n b pr f p K N i s r lv
 segs0 : ∀ i lv, (∀ s r, Fl n p i s r → ¬ D i) → S[i]? = some lv → lv = []
theorem JJ.congr {n : Network} {b : List Batch} {pr : List Product} {f : List (List Piece)} {p : Plan} {P D P' D' : Nat → Prop} {K : List Bool} {N : List Bounds} {S : List (List Level)} (h : JJ n b pr f p P D K N S)
  (hP : ∀ i q, n.Ports[i]? = some q → (P i ↔ P' i)) (hD : ∀ i s r, Fl n p i s r → (D i ↔ D' i)) : JJ n b pr f p P' D' K N S := by
 refine ⟨fun w hw => ?_, fun i s r hf hd => h.segs i s r hf ((hD i s r hf).2 hd), fun i lv hn hl => h.segs0 i lv (fun s r hf hd => hn s r hf ((hD i s r hf).1 hd)) hl⟩
 obtain ⟨k, c, h1, h2, h3⟩ := h.nodes w hw
 exact ⟨k, c, h1, h2, h3.congr fun d => (Come.congr hP hD).symm⟩
section
variable {n : Network} {b : List Batch} {pr : List Product} {f : List (List Piece)} {p : Plan} {K : List Bool} {N : List Bounds} {S : List (List Level)}
theorem set_get {α : Type} {l : List α} {v w : Nat} {x y : α} (h : l[w]? = some y) : (l.set v x)[w]? = some (if v = w then x else y) := by
 have hw := (gs h).1
 by_cases e : v = w
 ·subst e; rw [List.getElem?_set_self hw, if_pos rfl]
 ·rw [List.getElem?_set_ne e, h, if_neg e]
theorem nodes_come {C C' : Nat → Bounds → Prop} {v : Nat} {k : Bool} {bd c : Bounds} {m : Nat} (h : ∀ w : Nat, w < m → ∃ k c, K[w]? = some k ∧ N[w]? = some c ∧ Mn (C w) k c) (hk : K[v]? = some k) (hb : N[v]? = some bd)
  (hC : ∀ w d, C' w d ↔ C w d ∨ (w = v ∧ d = c)) : ∀ w : Nat, w < m → ∃ k' c', (K.set v true)[w]? = some k' ∧ (N.set v (cmb k bd c))[w]? = some c' ∧ Mn (C' w) k' c' := by
 intro w hw
 obtain ⟨k1, c1, h1, h2, h3⟩ := h w hw
 refine ⟨_, _, set_get h1, set_get h2, ?_⟩
 by_cases e : v = w
 ·subst e
  rw [hk] at h1; rw [hb] at h2
  cases h1; cases h2
  simp only [if_pos]
  exact h3.add fun d => by rw [hC]; simp
 ·simp only [if_neg e]
  exact h3.congr fun d => by rw [hC]; simp; intro h; exact absurd h.symm e
theorem port_step {P D : Nat → Prop} {v : Int} {k : Nat} {q : Port} {x : Int} (hq : n.Ports[k]? = some q) (hx : p.Ports[k]? = some x) (w : Int) (d : Bounds) :
  Come n p S (fun i => P i ∨ (i < k + 1 ∧ ∃ q : Port, n.Ports[i]? = some q ∧ q.Node = v)) D w d ↔
   Come n p S (fun i => P i ∨ (i < k ∧ ∃ q : Port, n.Ports[i]? = some q ∧ q.Node = v)) D w d ∨ (q.Node = v ∧ 0 < x ∧ w = v ∧ d = ⟨q.Pressure, q.Pressure⟩) := by
 unfold Come
 constructor
 ·rintro (⟨i, q1, x1, h1, h2, h3, h4, h5, h6⟩ | h)
  ·rcases h1 with h1 | ⟨h1, q2, hq2, h1'⟩
   ·exact .inl (.inl ⟨i, q1, x1, .inl h1, h2, h3, h4, h5, h6⟩)
   ·by_cases hik : i = k
    ·subst hik
     rw [hq] at h2 hq2; cases h2; cases hq2
     rw [hx] at h3; cases h3
     exact .inr ⟨h1', h4, by rw [← h5, h1'], h6⟩
    ·exact .inl (.inl ⟨i, q1, x1, .inr ⟨by omega, q2, hq2, h1'⟩, h2, h3, h4, h5, h6⟩)
  ·exact .inl (.inr h)
 ·rintro ((⟨i, q1, x1, h1, h2⟩ | h) | ⟨h1, h2, h3, h4⟩)
  ·refine .inl ⟨i, q1, x1, ?_, h2⟩
   rcases h1 with h1 | ⟨h1, h1'⟩
   ·exact .inl h1
   ·exact .inr ⟨by omega, h1'⟩
  ·exact .inr h
  ·exact .inl ⟨k, q, x, .inr ⟨by omega, q, hq, h1⟩, hq, hx, h2, by rw [h1, h3], h4⟩
theorem seg_step {P D : Nat → Prop} {k : Nat} {s : Segment} {r : Int} {lv : List Level} (hf : Fl n p k s r) (hD : ¬ D k) (hk : k < S.length) (w : Int) (d : Bounds) :
  Come n p (S.set k lv) P (fun i => D i ∨ i = k) w d ↔ Come n p S P D w d ∨ (w = (L.flow_Ends s r).2 ∧ d = lvEnd r lv) := by
 unfold Come
 constructor
 ·rintro (h | ⟨i, s1, r1, lv1, h1, h2, h3, h4, h5⟩)
  ·exact .inl (.inl h)
  ·by_cases hik : i = k
   ·subst hik
    have e1 := h2.seg; have e2 := h2.rate
    rw [hf.seg] at e1; cases e1
    rw [hf.rate] at e2; cases e2
    rw [List.getElem?_set_self hk] at h4; cases h4
    exact .inr ⟨h3.symm, h5⟩
   ·rw [List.getElem?_set_ne (fun h => hik h.symm)] at h4
    rcases h1 with h1 | h1
    ·exact .inl (.inr ⟨i, s1, r1, lv1, h1, h2, h3, h4, h5⟩)
    ·exact absurd h1 hik
 ·rintro ((h | ⟨i, s1, r1, lv1, h1, h2, h3, h4, h5⟩) | ⟨h1, h2⟩)
  ·exact .inl h
  ·have hik : i ≠ k := fun h => hD (h ▸ h1)
   exact .inr ⟨i, s1, r1, lv1, .inl h1, h2, h3, by rw [List.getElem?_set_ne (fun h => hik h.symm)]; exact h4, h5⟩
  ·exact .inr ⟨k, s, r, lv, .inr rfl, hf, h1.symm, List.getElem?_set_self hk, h2⟩
def PD (n : Network) (done : List Int) (i : Nat) : Prop := ∃ q : Port, n.Ports[i]? = some q ∧ q.Node ∈ done
def DD (n : Network) (p : Plan) (done : List Int) (i : Nat) : Prop := ∃ s r, Fl n p i s r ∧ (L.flow_Ends s r).1 ∈ done
theorem ends_node (hn : NetOk n) {i : Nat} {s : Segment} {r : Int} (hf : Fl n p i s r) : ∃ a c : Nat, (L.flow_Ends s r).1 = (a : Int) ∧ (L.flow_Ends s r).2 = (c : Int) ∧ a < n.Nodes.length ∧ c < n.Nodes.length ∧ a ≠ c := by
 have he := (hn.segs i s hf.seg).ends
 rcases endsOf (s := s) hf.ne with ⟨h, _⟩ | ⟨h, _⟩ <;> rw [h] <;> dsimp only
 ·exact ⟨s.To.toNat, s.From.toNat, by omega, by omega, by omega, by omega, by omega⟩
 ·exact ⟨s.From.toNat, s.To.toNat, by omega, by omega, by omega, by omega, by omega⟩
theorem node_spec {B : Int} {v : Nat} {done : List Int} (hw : W21 n b pr f) (hp : FlowOk n p) (h : Inv n B K N S) (hB : 100000000 ≤ B ∧ B ≤ 900000000000000) (hv : v < n.Nodes.length)
  (hj : JJ n b pr f p (PD n done) (DD n p done) K N S) (hnd : (v : Int) ∉ done)
  (hin : ∀ i s r, Fl n p i s r → (L.flow_Ends s r).2 = (v : Int) → (L.flow_Ends s r).1 ∈ done)
  (hout : ∀ i s r, Fl n p i s r → (L.flow_Ends s r).1 = (v : Int) → (L.flow_Ends s r).2 ∉ done) :
  Ok (L.steady_line_node (mkL n b pr f p K N S) (v : Int)) fun r => r.1 = 0 ∧ ∃ K' N' S', r.2 = mkL n b pr f p K' N' S' ∧ Inv n (B + 50000000000) K' N' S' ∧ JJ n b pr f p (PD n (done ++ [(v : Int)])) (DD n p (done ++ [(v : Int)])) K' N' S' := by
 have hn := hw.net
 have hs1 := hn.segs1; have hrl := hp.rl; have hpl := hp.pl; have hps := hn.ports1; have hfl := hw.fills.len
 let P := PD n done
 let AV : Nat → Prop := fun i => ∃ q : Port, n.Ports[i]? = some q ∧ q.Node = (v : Int)
 have hP' : ∀ i q, n.Ports[i]? = some q → (PD n (done ++ [(v : Int)]) i ↔ P i ∨ AV i) := by
  intro i q hq
  simp only [PD, P, AV, List.mem_append, List.mem_singleton]
  constructor
  ·rintro ⟨q', h1, h2 | h2⟩
   ·exact .inl ⟨q', h1, h2⟩
   ·exact .inr ⟨q', h1, h2⟩
  ·rintro (⟨q', h1, h2⟩ | ⟨q', h1, h2⟩)
   ·exact ⟨q', h1, .inl h2⟩
   ·exact ⟨q', h1, .inr h2⟩
 have keepP : ∀ K N, JJ n b pr f p (fun i => P i ∨ (i < 0 ∧ AV i)) (DD n p done) K N S → True := fun _ _ _ => trivial
 unfold L.steady_line_node
 refine .bind (Q := fun st : ST => ∃ K' N', st = pk n b pr f p K' N' S ∧ Inv n B K' N' S ∧ JJ n b pr f p (PD n (done ++ [(v : Int)])) (DD n p done) K' N' S)
  (.forS (fun k (st : ST) => ∃ K' N', st = pk n b pr f p K' N' S ∧ Inv n B K' N' S ∧ JJ n b pr f p (fun i => P i ∨ (i < k ∧ AV i)) (DD n p done) K' N' S) ⟨K, N, rfl, h, hj.congr (fun i q hq => by simp [P]) (fun _ _ _ _ => Iff.rfl)⟩ ?_ ?_) ?_
 ·rintro k q _ hq ⟨K, N, rfl, hI, hJ⟩
  simp only [mkL] at hq
  have hk := (gs hq).1
  have hpo := hn.ports k q hq
  have hx : p.Ports[k]? = some (p.Ports[k]'(by omega)) := gq _
  have hstep := fun S w d => port_step (n := n) (p := p) (S := S) (P := P) (D := DD n p done) (v := (v : Int)) hq hx w d
  have no : (¬ (q.Node = (v : Int) ∧ 0 < p.Ports[k]'(by omega))) → Ok (L.steady_line_node.J8 (v : Int) q (pk n b pr f p K N S) false) fun st : ST => ∃ K' N', st = pk n b pr f p K' N' S ∧ Inv n B K' N' S ∧ JJ n b pr f p (fun i => P i ∨ (i < k + 1 ∧ AV i)) (DD n p done) K' N' S := by
   intro hnn
   unfold L.steady_line_node.J8 L.steady_line_node.J7
   refine Ok.iteB (fun h => by cases h) fun _ => .pure ⟨K, N, rfl, hI, fun w hw => ?_, hJ.segs, hJ.segs0⟩
   obtain ⟨k1, c1, h1, h2, h3⟩ := hJ.nodes w hw
   exact ⟨k1, c1, h1, h2, h3.congr fun d => by rw [hstep]; exact ⟨fun h => h.elim id fun h => absurd ⟨h.1, h.2.1⟩ hnn, .inl⟩⟩
  unfold L.steady_line_node.B6
  refine Ok.iteE (fun hnode => .bind' (.eq (ix_nat (l := (pk n b pr f p K N S).2.2.2.2.2.2.2.2.2.2.1) hx) ?_)) fun hnode => no fun h => hnode h.1
  dsimp only at hnode ⊢
  cases hd : decide (p.Ports[k]'(by omega) > 0) with
  | false => exact no fun h => by have := of_decide_eq_false hd; omega
  | true =>
   have hpos : 0 < p.Ports[k]'(by omega) := of_decide_eq_true hd
   obtain ⟨kb, bd, hkb, hbd, hM⟩ := hJ.nodes v hv
   have hcb : Bd B ⟨q.Pressure, q.Pressure⟩ := by
    have := hpo.pressure
    exact ⟨Int.le_refl _, by dsimp only; omega, by dsimp only; omega⟩
   unfold L.steady_line_node.J8
   refine Ok.iteB (fun _ => .bind' (.eq (comes_eq (n := n) (b := b) (pr := pr) (f := f) (p := p) (K := K) (N := N) (S := S) (c := ⟨q.Pressure, q.Pressure⟩) hkb hbd) ?_)) fun h => by cases h
   unfold L.steady_line_node.J7
   refine .pure ⟨K.set v true, N.set v (cmb kb bd ⟨q.Pressure, q.Pressure⟩), rfl, comes_inv hI hkb hbd hv hcb, nodes_come hJ.nodes hkb hbd fun w d => ?_, ?_, hJ.segs0⟩
   ·rw [hstep]
    constructor
    ·rintro (h | ⟨_, _, h, h'⟩)
     ·exact .inl h
     ·exact .inr ⟨by omega, h'⟩
    ·rintro (h | ⟨rfl, h'⟩)
     ·exact .inl h
     ·exact .inr ⟨hnode, hpos, rfl, h'⟩
   ·intro i s r hf hdd
    obtain ⟨lv, h1, h2, a, bd', c', fi, e1, e2, e3, e4⟩ := hJ.segs i s r hf hdd
    have hav : a ≠ v := fun h => by
     subst h
     obtain ⟨s', r', hf', hd'⟩ := hdd
     have g1 := hf'.seg; have g2 := hf'.rate
     rw [hf.seg] at g1; cases g1
     rw [hf.rate] at g2; cases g2
     rw [e1] at hd'; exact hnd hd'
    exact ⟨lv, h1, h2, a, bd', c', fi, e1, by rw [List.getElem?_set_ne (fun h => hav h.symm)]; exact e2, by rw [List.getElem?_set_ne (fun h => hav h.symm)]; exact e3, e4⟩
 ·rintro _ ⟨K, N, rfl, hI, hJ⟩
  refine ⟨K, N, rfl, hI, hJ.congr (fun i q hq => ?_) fun _ _ _ _ => Iff.rfl⟩
  rw [hP' i q hq]
  have := (gs hq).1
  simp only [mkL]
  simp [this]
 ·rintro _ ⟨K, N, rfl, hI, hJ⟩
  obtain ⟨kb, bd, hkb, hbd, hM⟩ := hJ.nodes v hv
  unfold L.steady_line_node.J1
  refine .bind' (.eq (ix_nat (l := (pk n b pr f p K N S).2.2.2.2.2.2.2.2.2.2.2.2.1) hkb) ?_)
  let A : Nat → Prop := fun i => ∃ s r, Fl n p i s r ∧ (L.flow_Ends s r).1 = (v : Int)
  have hD' : ∀ i s r, Fl n p i s r → (DD n p (done ++ [(v : Int)]) i ↔ DD n p done i ∨ A i) := by
   intro i s r hf
   simp only [DD, A, List.mem_append, List.mem_singleton]
   constructor
   ·rintro ⟨s', r', h1, h2 | h2⟩
    ·exact .inl ⟨s', r', h1, h2⟩
    ·exact .inr ⟨s', r', h1, h2⟩
   ·rintro (⟨s', r', h1, h2⟩ | ⟨s', r', h1, h2⟩)
    ·exact ⟨s', r', h1, .inl h2⟩
    ·exact ⟨s', r', h1, .inr h2⟩
  cases kb with
  | false =>
   refine Ok.iteN (fun _ => .pure ⟨rfl, K, N, S, rfl, hI.mono (by omega), hJ.congr (fun _ _ _ => Iff.rfl) fun i s r hf => ?_⟩) fun h => by cases h
   rw [hD' i s r hf]
   refine ⟨.inl, fun h => h.elim id fun ⟨s', r', hf', ho⟩ => ?_⟩
   have hnone : ¬ ∃ c, Come n p S (PD n (done ++ [(v : Int)])) (DD n p done) (v : Int) c := fun h => by have := hM.kn.2 h; cases this
   refine absurd ?_ hnone
   rcases in_of_out hn hp hf' ho with ⟨k, q, x, g1, g2, g3, g4⟩ | ⟨j, s2, r2, g1, g2⟩
   ·exact ⟨_, .inl ⟨k, q, x, ⟨q, g1, by simp [g4]⟩, g1, g2, g3, g4, rfl⟩⟩
   ·have hd : DD n p done j := ⟨s2, r2, g1, hin j s2 r2 g1 g2⟩
    obtain ⟨lv, h1, _⟩ := hJ.segs j s2 r2 g1 hd
    exact ⟨_, .inr ⟨j, s2, r2, lv, hd, g1, g2, h1, rfl⟩⟩
  | true =>
  refine Ok.iteN (fun h => by cases h) fun _ => ?_
  obtain ⟨c, hc1, hc, hce⟩ := enters_eq (b := b) (pr := pr) (f := f) (node := (v : Int)) hn hp hI ⟨by omega, by omega⟩ hbd
  refine .bind' (.eq hce ?_)
  dsimp only
  refine Ok.iteU (fun h => absurd rfl h) fun _ => ?_
  refine .bind' (.forL (fun k (st : ST) => ∃ K' N' S', st = pk n b pr f p K' N' S' ∧ Inv n (B + 50000000000) K' N' S' ∧ K'[v]? = some true ∧ N'[v]? = some bd ∧ JJ n b pr f p (PD n (done ++ [(v : Int)])) (fun i => DD n p done i ∨ (i < k ∧ A i)) K' N' S') (fun _ => False) ⟨K, N, S, rfl, hI.mono (by omega), hkb, hbd, hJ.congr (fun _ _ _ => Iff.rfl) fun i s r hf => by simp⟩ ?_ ?_ fun _ h => h.elim)
  ·rintro k s _ hs ⟨K, N, S, rfl, hI, hKv, hNv, hJ⟩
   simp only [mkL] at hs
   have hk := (gs hs).1
   have hr : p.Rates[k]? = some (p.Rates[k]'(by omega)) := gq _
   have hrg := hp.rng k _ s hr hs
   have hse := hn.segs k s hs
   have hfk : f[k]? = some (f[k]'(by omega)) := gq _
   have hfo := hw.fills.all k _ s hfk hs
   have skip : ¬ A k → JJ n b pr f p (PD n (done ++ [(v : Int)])) (fun i => DD n p done i ∨ (i < k + 1 ∧ A i)) K N S := fun hA => hJ.congr (fun _ _ _ => Iff.rfl) fun i s r hf => by
    constructor
    ·rintro (h | ⟨h, h'⟩)
     ·exact .inl h
     ·exact .inr ⟨by omega, h'⟩
    ·rintro (h | ⟨h, h'⟩)
     ·exact .inl h
     ·by_cases hik : i = k
      ·subst hik; exact absurd h' hA
      ·exact .inr ⟨by omega, h'⟩
   unfold L.steady_line_node.B3
   refine .bind' (.eq (ix_nat (l := (pk n b pr f p K N S).2.2.2.2.2.2.2.2.2.1) hr) ?_)
   refine Ok.iteB (fun hc0 => ?_) fun hc0 => ?_
   ·unfold L.steady_line_node.J4
    refine .pure ⟨K, N, S, rfl, hI, hKv, hNv, skip ?_⟩
    rintro ⟨s', r', hf', ho⟩
    have g1 := hf'.seg; have g2 := hf'.rate
    rw [hs] at g1; cases g1
    rw [hr] at g2; cases g2
    have := hf'.ne
    simp [this] at hc0
    exact hc0 ho
   ·have hr0 : p.Rates[k]'(by omega) ≠ 0 := fun h => by simp [h] at hc0
    have hfl' : Fl n p k s (p.Rates[k]'(by omega)) := ⟨hs, hr, hr0⟩
    have hfrom : (L.flow_Ends s (p.Rates[k]'(by omega))).1 = (v : Int) := by simp [hr0] at hc0; exact hc0
    obtain ⟨a, t, ha, ht, hal, htl, hat⟩ := ends_node hn hfl'
    have hav : a = v := by omega
    have htv : t ≠ v := by omega
    have hnDk : ¬ (DD n p done k ∨ (k < k ∧ A k)) := by
     rintro (⟨s', r', hf', hd'⟩ | ⟨h, _⟩)
     ·have g1 := hf'.seg; have g2 := hf'.rate
      rw [hs] at g1; cases g1
      rw [hr] at g2; cases g2
      rw [hfrom] at hd'; exact hnd hd'
     ·omega
    obtain ⟨x, hx1, hx2, hx3, hx4⟩ := along_in (r := p.Rates[k]'(by omega)) (B := B + 2000000) (b := c) (hse.g (by omega)) hfo hw.prods hw.bats ⟨hr0, hrg.1, hrg.2.1⟩ ⟨by omega, by omega⟩ hc
    refine .bind' (.eq (ix_nat (l := (pk n b pr f p K N S).2.2.2.2.2.2.2.2.1) hfk) (.bind' (.eq hx1 (Ok.iteU (fun h => absurd rfl h) fun _ => ?_))))
    have hsl := hI.sl
    obtain ⟨kt, bt, hkt, hbt, hMt⟩ := hJ.nodes t htl
    have j5 : ∀ y : Level, y ∈ x → lvEnd (p.Rates[k]'(by omega)) x = y.Bounds → Ok (L.steady_line_node.J5 k s (pk n b pr f p K N S) (k, p.Rates[k]'(by omega)) (x, 0) (y.At, y.Bounds.Low, y.Bounds.High)) (Sum.elim (fun st : ST => ∃ K' N' S', st = pk n b pr f p K' N' S' ∧ Inv n (B + 50000000000) K' N' S' ∧ K'[v]? = some true ∧ N'[v]? = some bd ∧ JJ n b pr f p (PD n (done ++ [(v : Int)])) (fun i => DD n p done i ∨ (i < k + 1 ∧ A i)) K' N' S') fun _ : Int × steady_line => False) := by
     intro y hy hye
     have hyb := (hx4 y hy).1
     unfold L.steady_line_node.J5
     refine .bind' (.ix k rfl (by simp only [pk]; omega) ?_)
     have hI2 : Inv n (B + 50000000000) K N (S.set k x) := by
      refine ⟨hI.kl, hI.nl, by simp [hsl], hI.nb, fun i lv s1 hi hs1' => ?_⟩
      by_cases hik : i = k
      ·subst hik
       rw [List.getElem?_set_self (by omega)] at hi
       cases hi
       rw [hs] at hs1'; cases hs1'
       exact ⟨hx3, fun z hz => ⟨(hx4 z hz).1.mono (by omega), (hx4 z hz).2⟩⟩
      ·rw [List.getElem?_set_ne (by omega)] at hi
       exact hI.sb i lv s1 hi hs1'
     dsimp only
     rw [ht]
     refine .bind' (.eq (comes_eq (n := n) (b := b) (pr := pr) (f := f) (p := p) (K := K) (N := N) (S := S.set k x) (c := ⟨y.Bounds.Low, y.Bounds.High⟩) hkt hbt) ?_)
     unfold L.steady_line_node.J4
     refine .pure ⟨K.set t true, N.set t (cmb kt bt ⟨y.Bounds.Low, y.Bounds.High⟩), S.set k x, rfl, comes_inv hI2 hkt hbt htl (hyb.mono (by omega)), by rw [List.getElem?_set_ne htv]; exact hKv, by rw [List.getElem?_set_ne htv]; exact hNv, ?_⟩
     have hDk : ∀ i s r, Fl n p i s r → (((DD n p done i ∨ (i < k ∧ A i)) ∨ i = k) ↔ (DD n p done i ∨ (i < k + 1 ∧ A i))) := by
      intro i s' r' hf'
      constructor
      ·rintro ((h | ⟨h, h'⟩) | rfl)
       ·exact .inl h
       ·exact .inr ⟨by omega, h'⟩
       ·exact .inr ⟨by omega, _, _, hfl', hfrom⟩
      ·rintro (h | ⟨h, h'⟩)
       ·exact .inl (.inl h)
       ·by_cases hik : i = k
        ·exact .inr hik
        ·exact .inl (.inr ⟨by omega, h'⟩)
     refine JJ.congr (P := PD n (done ++ [(v : Int)])) (D := fun i => (DD n p done i ∨ (i < k ∧ A i)) ∨ i = k) ⟨?_, ?_, ?_⟩ (fun _ _ _ => Iff.rfl) hDk
     ·refine nodes_come hJ.nodes hkt hbt fun w d => ?_
      rw [seg_step hfl' hnDk (by omega), ht, hye]
      constructor
      ·rintro (h | ⟨h, h'⟩)
       ·exact .inl h
       ·exact .inr ⟨by omega, h'⟩
      ·rintro (h | ⟨h, h'⟩)
       ·exact .inl h
       ·exact .inr ⟨by omega, h'⟩
     ·intro i s' r' hf' hd'
      by_cases hik : i = k
      ·subst hik
       have g1 := hf'.seg; have g2 := hf'.rate
       rw [hs] at g1; cases g1
       rw [hr] at g2; cases g2
       exact ⟨x, List.getElem?_set_self (by omega), hx2, v, bd, c, _, hfrom, by rw [List.getElem?_set_ne htv]; exact hKv, by rw [List.getElem?_set_ne htv]; exact hNv, hc1, hfk, hx1⟩
      ·have hd2 : DD n p done i ∨ (i < k ∧ A i) := hd'.elim id fun h => absurd h hik
       obtain ⟨lv, h1, h2, a', bd', c', fi, e1, e2, e3, e4⟩ := hJ.segs i s' r' hf' hd2
       have hta : t ≠ a' := by
        rintro rfl
        have hto : (L.flow_Ends s (p.Rates[k]'(by omega))).2 ∉ done := hout k s _ hfl' hfrom
        rcases hd2 with ⟨s2, r2, hf2, hd3⟩ | ⟨_, s2, r2, hf2, hd3⟩
        ·have g1 := hf2.seg; have g2 := hf2.rate
         rw [hf'.seg] at g1; cases g1
         rw [hf'.rate] at g2; cases g2
         rw [e1, ← ht] at hd3; exact hto hd3
        ·have g1 := hf2.seg; have g2 := hf2.rate
         rw [hf'.seg] at g1; cases g1
         rw [hf'.rate] at g2; cases g2
         rw [e1] at hd3; omega
       exact ⟨lv, by rw [List.getElem?_set_ne (fun h => hik h.symm)]; exact h1, h2, a', bd', c', fi, e1, by rw [List.getElem?_set_ne hta]; exact e2, by rw [List.getElem?_set_ne hta]; exact e3, e4⟩
     ·intro i lv hn' hl
      have hik : i ≠ k := by
       rintro rfl
       exact hn' s _ hfl' (.inr rfl)
      rw [List.getElem?_set_ne (fun h => hik h.symm)] at hl
      exact hJ.segs0 i lv (fun s' r' hf' hd' => hn' s' r' hf' (.inl hd')) hl
    have h0 : x[0]? = some (x[0]'(by omega)) := gq _
    have hl : x[x.length - 1]? = some (x[x.length - 1]'(by omega)) := gq _
    have h0' : ix x 0 = some (0, x[0]'(by omega)) := ix_nat h0
    dsimp only
    rw [h0']
    refine .bind' (.pure (Ok.iteD (fun hpos => ?_) fun hneg => j5 _ (mg h0) (by unfold lvEnd; rw [if_neg (by omega), h0]; rfl)))
    rw [wr_id (by omega), show (x.length : Int) - 1 = ((x.length - 1 : Nat) : Int) by omega, ix_nat hl]
    exact .bind' (.pure (j5 _ (mg hl) (by unfold lvEnd; rw [if_pos (by omega), hl]; rfl)))
  ·rintro _ ⟨K', N', S', rfl, hI', _, _, hJ'⟩
   simp only [Sum.elim_inl]
   unfold L.steady_line_node.J2
   refine .pure ⟨rfl, K', N', S', rfl, hI', hJ'.congr (fun _ _ _ => Iff.rfl) fun i s r hf => ?_⟩
   rw [hD' i s r hf]
   have hil := (gs hf.seg).1
   exact ⟨fun h => h.imp id fun h => h.2, fun h => h.imp id fun h => ⟨hil, h⟩⟩
end
structure Sol (n : Network) (b : List Batch) (pr : List Product) (f : List (List Piece)) (p : Plan) (x : Pressures) : Prop where
 inv : Inv n 400000000000 x.Known x.Nodes x.Segments
 nodes : ∀ w : Nat, w < n.Nodes.length → ∃ k c, x.Known[w]? = some k ∧ x.Nodes[w]? = some c ∧ Mn (Come n p x.Segments (fun _ => True) (fun _ => True) (w : Int)) k c
 segs : ∀ i s r, Fl n p i s r → ∃ lv, x.Segments[i]? = some lv ∧ 2 ≤ lv.length ∧ SegOf n b pr f p x.Known x.Nodes i s r lv
 segs0 : ∀ (i : Nat) (lv : List Level), p.Rates[i]? = some 0 → x.Segments[i]? = some lv → lv = []
theorem solve_spec {n : Network} {b : List Batch} {pr : List Product} {f : List (List Piece)} {p : Plan} (hw : W21 n b pr f) (hp : FlowOk n p) :
  ∃ x, L.steady_Solve n b pr f p = some (x, 0) ∧ Sol n b pr f p x := by
 have hn := hw.net
 have hn1 := hn.nodes; have hs1 := hn.segs1
 have : Ok (L.steady_Solve n b pr f p) fun r => r.2 = 0 ∧ Sol n b pr f p r.1 := by
  obtain ⟨ord, ho, hT, hfull⟩ := order_topo hn hp
  have eo : L.flow_Order n p = some (ord, 0) := by
   unfold L.flow_Order
   rw [flowCheckF hn hp, ho]; rfl
  have hol : ord.length ≤ 6 := by
   have := hT.nodup.length_le_of_subset (l₂ := (List.range n.Nodes.length).map fun v : Nat => (v : Int)) fun v hv => by
    have := hT.rng v hv
    exact List.mem_map.2 ⟨v.toNat, List.mem_range.2 (by omega), by omega⟩
   simp at this; omega
  unfold L.steady_Solve
  refine .bind' (.eq eo (Ok.iteU (fun h => absurd rfl h) fun _ => .bind' (.eq (advCheck hw) (Ok.iteU (fun h => absurd rfl h) fun _ => .bind' (.eq (productsCheck hw.prods) (Ok.iteU (fun h => absurd rfl h) fun _ => ?_))))))
  refine .bind' (.forL (fun _ _ => True) (fun _ => False) trivial ?_ ?_ fun _ h => h.elim)
  ·intro k x _ hx _
   have hk := (gs hx).1
   have hs : n.Segments[k]? = some (n.Segments[k]'(by have := hw.fills.len; omega)) := gq _
   have hf := hw.fills.all k x _ hx hs
   unfold L.steady_Solve.B5
   rw [none_api_Piece_api_Piece (fun j y hy => by
    unfold L.steady_Solve_1
    rw [known_ok hw.bats (hf.bat y (mg hy))]; rfl)]
   exact .bind' (.pure (Ok.iteB (fun h => by cases h) fun _ => .pure trivial))
  ·intro _ _
   simp only [Sum.elim_inl]
   unfold L.steady_Solve.J1
   refine .bind' (.mk n.Nodes.length rfl (by omega) (.bind' (.mk n.Nodes.length rfl (by omega) (.bind' (.mk n.Segments.length rfl (by omega) ?_)))))
   unfold L.steady_Solve.J2
   refine .bind' (.forI (fun k (st : ST) => ∃ K N S, st = pk n b pr f p K N S ∧ Inv n (100000000 + 50000000000 * (k : Int)) K N S ∧ JJ n b pr f p (PD n (ord.take k)) (DD n p (ord.take k)) K N S) (fun _ => False) ⟨_, _, _, rfl, ?_, ?_⟩ ?_ ?_ fun _ h => h.elim)
   ·refine ⟨by simp, by simp, by simp, fun c hc => ?_, fun i lv s hi hs => ?_⟩
    ·have := List.eq_of_mem_replicate hc
     subst this
     exact ⟨Int.le_refl _, by dsimp only; omega, by dsimp only; omega⟩
    ·rw [List.getElem?_replicate] at hi
     split at hi
     ·cases hi; exact ⟨by simp, by simp⟩
     ·cases hi
   ·refine ⟨fun w hw => ⟨false, ⟨0, 0⟩, by simp [hw], by simp [hw], ⟨?_, fun _ => rfl, (fun h => by cases h), (fun h => by cases h), (fun h => by cases h)⟩⟩, ?_, fun i lv _ hl => ?_⟩
    ·simp [Come, PD, DD]
    ·rintro i s r _ ⟨s', r', _, h⟩
     simp at h
    ·rw [List.getElem?_replicate] at hl
     split at hl
     ·cases hl; rfl
     ·cases hl
   ·rintro k _ hk ⟨K, N, S, rfl, hI, hJ⟩
    dsimp only at hk
    have hg : ord[k]? = some (ord[k]'hk) := gq _
    have hv := hT.rng _ (mg hg)
    obtain ⟨v, hve⟩ := nat_of hv.1
    rw [hve] at hg hv
    have hnd : (v : Int) ∉ ord.take k := fun hm => by
     obtain ⟨j, hj⟩ := List.getElem?_of_mem hm
     rw [List.getElem?_take] at hj
     split at hj
     ·rename_i hjk
      have hjl := (gs hj).1
      have := (List.getElem?_inj hjl hT.nodup).1 (hj.trans hg.symm)
      omega
     ·cases hj
    have hin : ∀ i s r, Fl n p i s r → (L.flow_Ends s r).2 = (v : Int) → (L.flow_Ends s r).1 ∈ ord.take k := hT.topo k _ hg
    have hout : ∀ i s r, Fl n p i s r → (L.flow_Ends s r).1 = (v : Int) → (L.flow_Ends s r).2 ∉ ord.take k := by
     intro i s r hf ho hm
     obtain ⟨j, hj⟩ := List.getElem?_of_mem hm
     rw [List.getElem?_take] at hj
     split at hj
     ·rename_i hjk
      have := hT.topo j _ hj i s r hf rfl
      rw [ho] at this
      exact hnd ((List.take_subset_take_left ord (by omega)) this)
     ·cases hj
    unfold L.steady_Solve.B4
    refine .bind' (.eq (ix_nat (l := (ord, (0 : Int)).1) hg) (.bind (node_spec (n := n) (b := b) (pr := pr) (f := f) (p := p) (K := K) (N := N) (S := S) hw hp hI (by omega) (by omega) hJ hnd hin hout) ?_))
    rintro ⟨e, l'⟩ ⟨he, K', N', S', hl', hI', hJ'⟩
    dsimp only at he hl'
    subst he hl'
    refine Ok.iteU (fun h => absurd rfl h) fun _ => .pure ⟨K', N', S', rfl, hI'.mono (by omega), ?_⟩
    rw [List.take_add_one, hg]; exact hJ'
   ·rintro _ ⟨K, N, S, rfl, hI, hJ⟩
    simp only [Sum.elim_inl]
    unfold L.steady_Solve.J3
    have hall : ∀ w, 0 ≤ w → w < (n.Nodes.length : Int) → w ∈ ord.take ord.length := fun w h0 h1 => by
     rw [List.take_length]
     have := hfull w.toNat (by omega)
     rwa [show ((w.toNat : Nat) : Int) = w by omega] at this
    have hD : ∀ i s r, Fl n p i s r → DD n p (ord.take ord.length) i := fun i s r hf => by
     obtain ⟨a, c, h1, h2, h3, h4, _⟩ := ends_node hn hf
     exact ⟨s, r, hf, hall _ (by omega) (by omega)⟩
    have hJ2 : JJ n b pr f p (fun _ => True) (fun _ => True) K N S := hJ.congr (fun i q hq => by
     have := (hn.ports i q hq).node
     simp only [iff_true]
     exact ⟨q, hq, hall _ (by omega) (by omega)⟩) fun i s r hf => by simp only [iff_true]; exact hD i s r hf
    refine .pure ⟨rfl, hI.mono (by dsimp only; omega), hJ2.nodes, fun i s r hf => hJ2.segs i s r hf trivial, fun i lv h0 hl => hJ2.segs0 i lv (fun s r hf => ?_) hl⟩
    have := hf.rate
    rw [h0] at this
    exact absurd (Option.some.inj this).symm hf.ne
 obtain ⟨⟨x, e⟩, h, h1, h2⟩ := this
 dsimp only at h1 h2
 subst h1
 exact ⟨x, h, h2⟩
theorem awake21 : L.law21_awake = some true := by kernel_rfl
theorem world_ok {s : Src} (hs : SrcOk s) : Ok (L.law21_world s) fun r => W21 r.1 r.2.1 r.2.2.1 r.2.2.2.1 ∧ PlanOk r.1 r.2.2.2.2.1 ∧ SrcOk r.2.2.2.2.2 := by
 unfold L.law21_world
 refine .bind (net_ok hs) ?_
 rintro ⟨n, s1⟩ ⟨hn, hs1⟩
 dsimp only at hn hs1 ⊢
 refine .bind (products_ok hs1) ?_
 rintro ⟨pr, s2⟩ ⟨hpr, hs2⟩
 dsimp only at hpr hs2 ⊢
 refine .bind (batches_ok hs2 hpr.len) ?_
 rintro ⟨b, s3⟩ ⟨hb, hs3⟩
 dsimp only at hb hs3 ⊢
 refine .bind (fills_ok hn hs3) ?_
 rintro ⟨f, s4⟩ ⟨hf, hs4⟩
 dsimp only at hf hs4 ⊢
 refine .bind (plan_ok hn hs4) ?_
 rintro ⟨p, s5⟩ ⟨hp, hs5⟩
 dsimp only at hp hs5 ⊢
 exact .pure ⟨⟨hn, hpr, hb, hf⟩, hp, hs5⟩
theorem ends16 (s : Segment) (r : Int) : L.ref16_Ends s r = L.flow_Ends s r := rfl
theorem absq (r : Int) (h : -1000 ≤ r ∧ r ≤ 1000) : L.ref16_Abs r = max r (-r) := by
 unfold L.ref16_Abs
 rw [wr_id (by omega)]
 congr 1; omega
theorem nameOk03S {k : Nat} (hk : k < 26) : L.ref03_Name (nm 115 k) = some true := by
 rcases lt26 hk with rfl | rfl | rfl | rfl | rfl | rfl | rfl | rfl | rfl | rfl | rfl | rfl | rfl | rfl | rfl | rfl | rfl | rfl | rfl | rfl | rfl | rfl | rfl | rfl | rfl | rfl <;> kernel_rfl
theorem Inv.ent {n : Network} {b : List Batch} {p : Plan} {K : List Bool} {N : List Bounds} {S : List (List Level)} {B : Int} (hn : NetOk n) (hp : FlowOk n p) (h : Inv n B K N S) (hB : 0 ≤ B ∧ B ≤ 1000000000000000) {v : Nat} {bd c : Bounds} (hg : N[v]? = some bd) (he : Ent n p (v : Int) bd c) : Bd (B + 2000000) c := by
 have h1 := hn.sts1; have h3 := hn.nodes
 have hbd := h.nb _ (mg hg)
 rcases he with ⟨j, t, ht, htn, _, rfl⟩ | ⟨_, rfl⟩
 ·have hj := (gs ht).1
  obtain ⟨_, o1, o2⟩ := leaves_eq (b := b) (pr := []) (f := []) (K := K) (N := N) (S := S) hn hp (v : Int)
  exact (raise_eq (hn.sts j t ht) (by omega) (by omega) hB hbd ⟨o1, o2⟩).2
 ·exact hbd.mono (by omega)
def lvStart (r : Int) (lv : List Level) : Bounds := if 0 < r then ((lv[0]?).map (·.Bounds)).getD ⟨0, 0⟩ else ((lv[lv.length - 1]?).map (·.Bounds)).getD ⟨0, 0⟩
theorem along_start {s : Segment} {f : List Piece} {bs : List Batch} {p : List Product} (hs : SegG s) (hf : FillOk s.Capacity f) (hp : ProdsOk p) (hb : BatsOk p.length bs) {r B : Int} {b : Bounds} (hr : r ≠ 0 ∧ -1000 ≤ r ∧ r ≤ 1000) (hB : 0 ≤ B ∧ B ≤ 1000000000000000) (hbd : Bd B b)
  {lv : List Level} (h : L.gradient_Along s f bs p r b = some (lv, 0)) : lvStart r lv = b := by
 obtain ⟨l, hl1, hl2, hl3⟩ := liq_ok hf hb
 obtain ⟨W, hW, hP, hA⟩ := along_ok hs hf hp hl1 hl2 hl3
 have hb2 := brk_two hs.points hs.cap.1 hf
 obtain ⟨b1, b2, b3⟩ := hbd
 have e := hA r b hr.1 hr.2.1 hr.2.2 b1 (by omega) (by omega)
 rw [h] at e
 have e2 : lv = along s f W r b := (Prod.mk.inj (Option.some.inj e)).1
 subst e2
 unfold lvStart
 rw [along_len]
 by_cases hp0 : 0 < r
 ·rw [if_pos hp0, along_get _ _ _ _ _ (by omega)]
  simp only [Option.map_some, Option.getD_some, lvl, ixOf, if_neg (show ¬ r < 0 by omega), List.take_zero, sumBy]
  simp
 ·rw [if_neg hp0, along_get _ _ _ _ _ (by omega)]
  simp only [Option.map_some, Option.getD_some, lvl, ixOf, if_pos (show r < 0 by omega), Nat.sub_self, List.take_zero, sumBy]
  simp
theorem outflow21 {n : Network} {p : Plan} (hn : NetOk n) (hp : FlowOk n p) (v : Int) : L.ref21_Outflow n p v = some (outf n p v) ∧ 0 ≤ outf n p v ∧ outf n p v ≤ 32000 := by
 have h1 := hn.segs1; have h2 := hp.rl
 refine ⟨?_, (leaves_eq (b := []) (pr := []) (f := []) (K := []) (N := []) (S := []) hn hp v).2⟩
 have : Ok (L.ref21_Outflow n p v) fun r => r = outf n p v := by
  unfold L.ref21_Outflow
  refine .bind (.forS (fun k (st : Int) => (0 ≤ st ∧ st ≤ 1000 * k) ∧ st + outW v (n.Segments.drop k) (p.Rates.drop k) = outf n p v) ⟨⟨by omega, by omega⟩, by simp [outf]⟩ ?_ fun st h => h) ?_
  ·rintro k s st hs ⟨⟨i1, i2⟩, i3⟩
   have hk := (gs hs).1
   have hr : p.Rates[k]? = some (p.Rates[k]'(by omega)) := gq _
   have hg := hp.rng k _ s hr hs
   rw [drop_cons hs, drop_cons hr] at i3
   simp only [outW] at i3
   unfold L.ref21_Outflow.B2 L.ref21_Outflow.J3
   refine .bind' (.eq (ix_nat hr) (Ok.iteE (fun h0 => .pure ⟨⟨i1, by omega⟩, ?_⟩) fun h0 => ?_))
   ·dsimp only at h0
    rw [h0] at i3
    simp at i3; omega
   ·dsimp only
    rw [ends16, absq _ ⟨hg.1, hg.2.1⟩]
    refine Ok.iteE (fun he => .pure ?_) fun he => .pure ⟨⟨i1, by omega⟩, ?_⟩
    ·rw [if_pos he] at i3
     rw [wr_id (by omega)]
     omega
    ·rw [if_neg he] at i3
     omega
  ·rintro st ⟨⟨i1, i2⟩, i3⟩
   unfold L.ref21_Outflow.J1
   have hd : outW v (n.Segments.drop n.Segments.length) (p.Rates.drop n.Segments.length) = 0 := by simp [outW]
   rw [hd] at i3
   exact .pure (by rw [← i3]; simp)
 obtain ⟨r, h, rfl⟩ := this
 exact h
def Fg (N : List Bounds) (C : Nat → Bounds → Prop) (low high : List Bool) : Prop :=
 low.length = N.length ∧ high.length = N.length ∧ ∀ (w : Nat) (c d : Bounds), N[w]? = some c → C w d → (c.Low = d.Low → low[w]? = some true) ∧ (c.High = d.High → high[w]? = some true)
theorem flag_step {N : List Bounds} {C C' : Nat → Bounds → Prop} {low high : List Bool} {w : Nat} {lo hi : Bool} {c d : Bounds} (h : Fg N C low high) (hl : low[w]? = some lo) (hh : high[w]? = some hi) (hc : N[w]? = some c)
  (hC : ∀ w' d', C' w' d' → C w' d' ∨ (w' = w ∧ d' = d)) : Fg N C' (low.set w (lo || c.Low == d.Low)) (high.set w (hi || c.High == d.High)) := by
 obtain ⟨h1, h2, h3⟩ := h
 refine ⟨by simp [h1], by simp [h2], fun w' c' d' hc' hd' => ?_⟩
 have hw' := (gs hc').1
 rw [set_get (gq (by omega : w' < low.length)), set_get (gq (by omega : w' < high.length))]
 by_cases e : w = w'
 ·subst e
  rw [if_pos rfl, if_pos rfl]
  rw [hc] at hc'; cases hc'
  rcases hC w d' hd' with hd | ⟨_, rfl⟩
  ·have := h3 w c d' hc hd
   constructor
   ·intro he; have := this.1 he; rw [hl] at this; cases this; rfl
   ·intro he; have := this.2 he; rw [hh] at this; cases this; rfl
  ·constructor
   ·intro he; simp [he]
   ·intro he; simp [he]
 ·rw [if_neg e, if_neg e]
  rcases hC w' d' hd' with hd | ⟨h, _⟩
  ·have := h3 w' c' d' hc' hd
   rw [gq (by omega : w' < low.length), gq (by omega : w' < high.length)] at this
   exact this
  ·exact absurd h.symm e
end Go.Proofs.YtehbcbedipkifaaGreatDoor
namespace Go.Aw
set_option linter.unusedVariables false
set_option linter.unusedSimpArgs false
open Go.ChangeShapes Go.WideShapes Go.ChangeAt Go.RowKit
section
variable {H : Type} {enc : TypeId × Value → H} {P : Program}
theorem trodAll_below (hl : laidOutB P = true) {W W' : World} (hb : Below W.heap.size W W') : ∀ {ts : List TypeId} {vs : List Value} {ds : List (DataW H)} {ps : List MemPlace},
  (∀ t, t ∈ ts → P.readableRec t = true ∧ t < P.types.size) → (∀ x, x ∈ ps → x.block < W.heap.size) → DataW.TrodAll enc P W 0 (fun _ => true) true ts vs ds ps →
  DataW.TrodAll enc P W' 0 (fun b => decide (b < W.heap.size)) true ts vs ds ps
 | [], vs, ds, ps, _, _, h => by
  cases vs <;> cases ds <;> simp [DataW.TrodAll] at h ⊢
  exact h
 | t :: ts, vs, ds, ps, ht, hlt, h => by
  obtain ⟨v, vs', d, ds', p, q, rfl, rfl, rfl, h1, h2⟩ := trodAll_cons h
  have hr := ht t (by simp)
  exact ⟨p, q, Below.trod hl hr.1 hr.2 h1 hb (fun x hx => hlt x (by simp [hx])), trodAll_below hl hb (fun t ht' => ht t (by simp [ht'])) (fun x hx => hlt x (by simp [hx])) h2, rfl⟩
theorem law_post {f : Func} {s : ChangeSpec} {W W' : World} {args : Array Value} {ds : List (DataW H)} {p : List MemPlace} {t : TypeId} (hW : DataW.Whole enc P f.params.toList s.vars false W args.toList ds [] (p ++ []))
  (hA : DataW.TrodAll enc P W 0 (fun _ => true) true f.params.toList args.toList ds p)
  (hres : (s.fn H (ds ++ [])).results = [.lit (.bool true)]) (hargs : (s.fn H (ds ++ [])).args = ds) (hv : (s.fn H (ds ++ [])).vars = []) (hsv : s.vars = [])
  (hrt : f.resultTypes.toList = [t]) (hu : P.underlying t = some .bool) (hl : laidOutB P = true) (hall : ∀ t, t ∈ f.params.toList → P.readableRec t = true ∧ t < P.types.size)
  (hb : Below W.heap.size W W') : s.post enc P f false true false false W args (.bool true) W' := by
 have hlt : ∀ x, x ∈ p → x.block < W.heap.size := fun x hx => hW.lt x (by simp [hx])
 have hsz : f.resultTypes.size = 1 := by rw [← Array.length_toList, hrt]; rfl
 refine ⟨ds, [], p ++ [], [], p, [], hW, ?_, ?_, ?_, hb.frame _, fun h => by cases h⟩
 ·rw [hres, hrt, hsz]
  exact trodAll_mk1 (shut_bool hu true)
 ·rw [hargs]
  exact trodAll_below hl hb hall hlt hA
 ·rw [hv, hsv]; rfl
def encK (k : IntKind) (l : List Int) : T := .list 1 (l.map fun n => [.v (.int k n)])
theorem open_list {t e : TypeId} {k : IntKind} {W : World} {base : Nat} {r : Reach} {v : Value} {d : DataW H} {ps : List MemPlace} (ht : P.underlying t = some (.slice e)) (he : P.underlying e = some (.int k)) (hc : P.cellsOf e = 1)
  (hval : Value.okWide P W r base t v) (h : DataW.Trod enc P W 0 (fun _ => true) true t v d ps) :
  ∃ l : List Int, (l.length ≤ maxL → VR (fun b => W.heap[b]?) v (encK k l)) ∧ (∀ n, n ∈ l → (Lit.int k n).wf = true) ∧ (l = [] ∨ ∃ elems spare, d = .slice elems spare ∧ l.length = elems.length) := by
 obtain ⟨a0, len, cap, rfl⟩ := okWide_slice ht hval
 obtain ⟨fuel, hf⟩ := h
 rcases open_ints ht he hc hf with ⟨hcs, hx⟩ | ⟨a, len', cap', zs, hcs, _, hl, hm, hz, hx, hcell, hwz⟩
 ·simp [Value.cells] at hcs
  obtain ⟨rfl, rfl, rfl⟩ := hcs
  exact ⟨[], fun _ => .empty _ _ _, by simp, .inl rfl⟩
 ·simp [Value.cells] at hcs
  obtain ⟨rfl, rfl, rfl⟩ := hcs
  simp only [Prod.mk.injEq] at hx
  obtain ⟨rfl, rfl⟩ := hx
  simp only [if_true] at hz
  have hlt : (zs.take len).length = len := by simp; omega
  refine ⟨zs.take len, fun hmax => ?_, fun n hn => hwz n (List.mem_of_mem_take hn), .inr ⟨_, _, rfl, by simp [lits]⟩⟩
  by_cases hl0 : len = 0
  ·subst hl0; simp only [List.take_zero, encK, List.map_nil]; exact .empty _ _ _
  ·obtain ⟨b, off, spot⟩ := a
   have hspot : spot = none := by simpa [Addr.add] using World.cell?_spot (hcell 0 (by omega))
   subst hspot
   have hcell' : ∀ i, i < zs.length → W.cell? ⟨b, off + i, none⟩ = some (.int k (zs.getD i 0)) := fun i hi => by rw [← Addr.add_mk]; exact hcell i hi
   have hc0 := hcell' 0 (by omega)
   have hcs : ∃ cs ty fr, W.heap[b]? = some (.cells cs ty fr) := by
    unfold World.cell? at hc0
    split at hc0
    ·rename_i c ty fr hh; exact ⟨_, _, _, hh⟩
    ·cases hc0
   obtain ⟨cs, ty, fr, hh⟩ := hcs
   have hcs' : ∀ i, i < zs.length → cs[off + i]? = some (.int k (zs.getD i 0)) := fun i hi => by
    have := hcell' i hi
    simpa [World.cell?, hh] using this
   have hlen : ((zs.take len).map fun n => [T.v (.int k n)]).length = len := by rw [List.length_map, hlt]
   have hbig : off + len ≤ cs.size := by
    have := (Array.getElem?_eq_some_iff.1 (hcs' (len - 1) (by omega))).1
    omega
   have hgd : ∀ i e, ((zs.take len).map fun n => [T.v (.int k n)])[i]? = some e → ∀ (j : Nat) (x : T), e[j]? = some x → j = 0 ∧ x = .v (.int k (zs.getD i 0)) ∧ cs.getD (off + i * 1 + j) undef = .int k (zs.getD i 0) := by
    intro i e he j x hx
    simp only [List.getElem?_map, Option.map_eq_some_iff] at he
    obtain ⟨n, hn, rfl⟩ := he
    have hil := (List.getElem?_eq_some_iff.1 hn).1
    rw [hlt] at hil
    rw [List.getElem?_take_of_lt hil] at hn
    have hj : j = 0 := by have := (List.getElem?_eq_some_iff.1 hx).1; simp at this; exact this
    subst hj
    simp at hx
    have hzi : zs.getD i 0 = n := by simp [List.getD, hn]
    refine ⟨rfl, by rw [hzi]; exact hx.symm, ?_⟩
    rw [Array.getD_eq_getD_getElem?, show off + i * 1 + 0 = off + i by omega, hcs' i (by omega)]; rfl
   have := VR.list (H := fun b => W.heap[b]?) b off cap 1 ((zs.take len).map fun n => [T.v (.int k n)]) cs ty fr hh (by rw [hlen]; exact hl) (by rw [List.length_map]; exact hmax) (by rw [hlen]; omega)
    (fun i e he => by simp only [List.getElem?_map, Option.map_eq_some_iff] at he; obtain ⟨n, _, rfl⟩ := he; rfl)
    (fun i e he j x hx => by rw [(hgd i e he j x hx).2.2]; rfl) (fun i e he j x hx => by rw [(hgd i e he j x hx).2.2, (hgd i e he j x hx).2.1]; exact .v _)
   rw [hlen] at this
   exact this
end
theorem wf_u8 {n : Int} (h : (Lit.int .u8 n).wf = true) : 0 ≤ n ∧ n ≤ 255 := by
 have h1 : IntKind.u8.min = 0 := rfl
 have h2 : IntKind.u8.max = 255 := rfl
 simp only [Lit.wf, Bool.and_eq_true, decide_eq_true_eq] at h
 omega
theorem wf_u32 {n : Int} (h : (Lit.int .u32 n).wf = true) : 0 ≤ n ∧ n ≤ 4294967295 := by
 have h1 : IntKind.u32.min = 0 := rfl
 have h2 : IntKind.u32.max = 4294967295 := rfl
 simp only [Lit.wf, Bool.and_eq_true, decide_eq_true_eq] at h
 omega
theorem law_calls {E : Env} {f : FuncId} {xs : List T} {W : World} {args : Array Value} (hgl : Held fun b => W.heap[b]?) (hc : ACalls E f xs [] fun x _ => x = .v (.bool true)) (hsz : args.size = xs.length)
  (hv : ∀ (i : Nat) (x : T), xs[i]? = some x → VR (fun b => W.heap[b]?) (args.getD i undef) x) : Calls E.P f args W fun e W' => e = .returned (.bool true) ∧ Below W.heap.size W W' := by
 refine (hc.2 (fun b => W.heap[b]?) W args hsz hv ⟨fun _ _ h => h, hgl⟩ (by simp) (by simp)).mono ?_
 rintro e w' ⟨v, x, fp', H', rfl, rfl, hvr, _, _, _, _, hs, ⟨e1, e2, e3⟩, hfr⟩
 refine ⟨by rw [hvr.v_eq], ⟨e1, e2, e3, hs, fun k hk => (hfr k hk (by simp)).1⟩⟩
section
variable {H : Type} {enc : TypeId × Value → H} {P : Program} {w : World} {base : Nat} {spare : Nat → Bool} {held : Bool} {fuel : Nat} {t e i : TypeId} {cs : List Value} {p : List MemPlace}
theorem pair_cells {f0 f1 : Field} (ht : P.underlying t = some (.struct #[f0, f1])) (o0 : f0.offset = 0) (o1 : f1.offset = 1) (y0 : f0.type = i) (y1 : f1.type = i) (hi : P.underlying i = some (.int .i64)) (hc : P.cellsOf i = 1) (hct : P.cellsOf t = 2)
  {x : DataW H × List MemPlace} {a b : Int} (hx : x.1 = .agg [.lit (.int .i64 a), .lit (.int .i64 b)]) (h : DataW.trod enc P w base spare held fuel t cs = some x) : cs = [.int .i64 a, .int .i64 b] := by
 obtain ⟨z0, z1, n, rfl, hl, h0, h1⟩ := trod_struct2 ht h
 rw [hct] at hl
 rw [y0] at h0
 rw [y1] at h1
 obtain ⟨m0, e0, rfl, _⟩ := DataW.trod_int hi h0
 obtain ⟨m1, e1, rfl, _⟩ := DataW.trod_int hi h1
 rw [hc, o0] at e0
 rw [hc, o1] at e1
 simp only [DataW.agg.injEq, List.cons.injEq, DataW.lit.injEq, Lit.int.injEq, true_and, and_true] at hx
 match cs, hl with
 | [c0, c1], _ =>
  simp at e0 e1
  rw [e0, e1, hx.1, hx.2]
theorem spans_cells {f0 f1 : Field} (ht : P.underlying t = some (.array 4 e)) (he : P.underlying e = some (.struct #[f0, f1])) (o0 : f0.offset = 0) (o1 : f1.offset = 1) (y0 : f0.type = i) (y1 : f1.type = i) (hi : P.underlying i = some (.int .i64)) (hc : P.cellsOf i = 1) (hct : P.cellsOf e = 2) (hca : P.cellsOf t = 8)
  {a0 a1 a2 a3 a4 a5 a6 a7 : Int}
  (h : DataW.trod enc P w base spare held fuel t cs = some (.agg [.agg [.lit (.int .i64 a0), .lit (.int .i64 a1)], .agg [.lit (.int .i64 a2), .lit (.int .i64 a3)], .agg [.lit (.int .i64 a4), .lit (.int .i64 a5)], .agg [.lit (.int .i64 a6), .lit (.int .i64 a7)]], p)) :
  cs = [a0, a1, a2, a3, a4, a5, a6, a7].map fun n => .int .i64 n := by
 obtain ⟨xs, m, _, hx, hl, hn, hel⟩ := DataW.trod_array ht h
 rw [hca] at hl
 match xs, hn with
 | [x0, x1, x2, x3], _ =>
  simp only [Prod.mk.injEq, DataW.agg.injEq, List.map_cons, List.map_nil, List.cons.injEq, and_true] at hx
  obtain ⟨⟨g0, g1, g2, g3⟩, _⟩ := hx
  have k0 := pair_cells he o0 o1 y0 y1 hi hc hct g0.symm (by simpa using hel 0 (by decide))
  have k1 := pair_cells he o0 o1 y0 y1 hi hc hct g1.symm (by simpa using hel 1 (by decide))
  have k2 := pair_cells he o0 o1 y0 y1 hi hc hct g2.symm (by simpa using hel 2 (by decide))
  have k3 := pair_cells he o0 o1 y0 y1 hi hc hct g3.symm (by simpa using hel 3 (by decide))
  rw [hct] at k0 k1 k2 k3
  match cs, hl with
  | [c0, c1, c2, c3, c4, c5, c6, c7], _ =>
   simp at k0 k1 k2 k3
   simp [k0, k1, k2, k3]
theorem held_of {W : World} {n : String} {cs : Array Value} {l : List Int} (hn : P.globalNamed n = some 0) (h : W.var? P n = some cs) (hcs : cs.toList = l.map fun n => .int .i64 n) (hgl : gl = [(0, l.map fun n => .v (.int .i64 n))]) : Held fun b => W.heap[b]? := by
 have hb : ∃ ty fr, W.heap[0]? = some (.cells cs ty fr) := by
  simp only [World.var?, hn, Option.bind_some] at h
  split at h
  ·rename_i c ty fr hh; cases h; exact ⟨ty, fr, hh⟩
  ·cases h
 obtain ⟨ty, fr, hb⟩ := hb
 intro b m hm
 rw [hgl] at hm
 simp only [List.mem_cons, List.not_mem_nil, or_false, Prod.mk.injEq] at hm
 obtain ⟨rfl, rfl⟩ := hm
 have hget : ∀ (j : Nat) (x : T), (l.map fun n => T.v (.int .i64 n))[j]? = some x → ∃ n, x = .v (.int .i64 n) ∧ cs.getD (0 + j) undef = .int .i64 n := by
  intro j x hx
  simp only [List.getElem?_map, Option.map_eq_some_iff] at hx
  obtain ⟨n, hn, rfl⟩ := hx
  refine ⟨n, rfl, ?_⟩
  have : cs.toList[j]? = some (.int .i64 n) := by rw [hcs]; simp [hn]
  rw [Array.getElem?_toList] at this
  rw [Nat.zero_add, Array.getD_eq_getD_getElem?, this]; rfl
 refine .eptr 0 0 _ cs ty fr hb ?_ (fun j x hx => ?_) fun j x hx => ?_
 ·have := congrArg List.length hcs
  simp at this
  simp; omega
 ·obtain ⟨n, _, h⟩ := hget j x hx
  rw [h]; rfl
 ·obtain ⟨n, rfl, h⟩ := hget j x hx
  rw [h]; exact .v _
end
end Go.Aw
