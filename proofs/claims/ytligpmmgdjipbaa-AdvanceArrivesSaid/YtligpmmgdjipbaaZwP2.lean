/- Plain proofs. No condition. -/
import Derived.Test.YtligpmmgdjipbaaZwP1
import Derived.Test.YtligpmmgdjipbaaZwD
import Derived.Test.YtligpmmgdjipbaaZwB1
import Derived.ProofKit
import Derived.SizedLaws
import Derived.Carry
set_option maxRecDepth 100000
namespace Go.Proofs.Ytligpmmgdjipbaa
set_option linter.unusedVariables false
set_option linter.unusedSimpArgs false
open Go.Aw
structure Chain (n : Network) (m : Nat) : Prop where
 net : NetOk n
 m1 : 1 ≤ m ∧ m ≤ 5
 nn : n.Nodes.length = m + 1
 ns : n.Segments.length = m
 np : n.Ports.length = 2
 p0 : ∃ x, n.Ports[0]? = some x ∧ x.Node = 0
 p1 : ∃ x, n.Ports[1]? = some x ∧ x.Node = (m : Int)
 st : n.Stations = []
 ends : ∀ (i : Nat) (s : Segment), n.Segments[i]? = some s → s.From = (i : Int) ∧ s.To = (i : Int) + 1 ∨ s.From = (i : Int) + 1 ∧ s.To = (i : Int)
theorem seg_ends {s : Src} {k a b : Int} {r : Segment × Src} (h : L.zsex s k a b = some r) : r.1.From = a ∧ r.1.To = b ∨ r.1.From = b ∧ r.1.To = a := by
 have main : ∀ j r, L.zsex.J1 k j = some r → r.1.From = j.2.2.1 ∧ r.1.To = j.2.2.2 := by
  intro j r h
  unfold L.zsex.J1 at h
  obtain ⟨_, _, h⟩ := ob_some h
  obtain ⟨_, _, h⟩ := ob_some h
  obtain ⟨_, _, h⟩ := ob_some h
  obtain ⟨_, _, h⟩ := ob_some h
  obtain ⟨_, _, h⟩ := ob_some h
  obtain ⟨_, _, h⟩ := ob_some h
  obtain ⟨_, _, h⟩ := ob_some h
  obtain ⟨_, _, h⟩ := ob_some h
  unfold L.zsex.J2 at h
  obtain ⟨_, _, h⟩ := ob_some h
  obtain ⟨_, _, h⟩ := ob_some h
  obtain rfl := Option.some.inj h
  exact ⟨rfl, rfl⟩
 unfold L.zsex at h
 obtain ⟨x, _, h⟩ := ob_some h
 by_cases e : (x.1 == 0) = true
 ·rw [if_pos e] at h; exact .inr (main _ _ h)
 ·rw [if_neg e] at h; exact .inl (main _ _ h)
theorem chain_ok {d : Src} (hd : SrcOk d) : Ok (L.zhiu d) fun r => SrcOk r.2 ∧ ∃ m, Chain r.1 m := by
 unfold L.zhiu
 refine .bind (range_ok hd (lo := 1) (hi := 5) (by omega) (by omega) (by omega)) ?_
 rintro ⟨c, d1⟩ ⟨h1, h2, h3⟩
 dsimp only at h1 h2 h3 ⊢
 obtain ⟨m, rfl⟩ := nat_of (show 0 ≤ c by omega)
 let P : List Int × Int × List ByteArray × List Segment → Prop := fun r => SrcOk ⟨r.1, r.2.1⟩ ∧ r.2.2.1.length = m + 1 ∧ r.2.2.2.length = m ∧ (∀ (k : Nat) (x : ByteArray), r.2.2.1[k]? = some x → x = nm 110 k) ∧
  ∀ (k : Nat) (s : Segment), r.2.2.2[k]? = some s → SegOk (m + 1) k s ∧ (s.From = (k : Int) ∧ s.To = (k : Int) + 1 ∨ s.From = (k : Int) + 1 ∧ s.To = (k : Int))
 refine .bind (Q := P) (.loop (fun st => SrcOk ⟨st.1, st.2.1⟩ ∧ st.2.2.1.length = st.2.2.2.1.length + 1 ∧ (st.2.2.2.1.length : Int) + st.2.2.2.2 = m ∧ 0 ≤ st.2.2.2.2 ∧ (∀ (k : Nat) (x : ByteArray), st.2.2.1[k]? = some x → x = nm 110 k) ∧
  ∀ (k : Nat) (s : Segment), st.2.2.2.1[k]? = some s → SegOk (m + 1) k s ∧ (s.From = (k : Int) ∧ s.To = (k : Int) + 1 ∨ s.From = (k : Int) + 1 ∧ s.To = (k : Int))) (fun st => st.2.2.2.2.toNat)
  ⟨h1, rfl, by simp, by dsimp only; omega, fun k x hx => ?_, by simp⟩ (by dsimp only; omega) ?_) ?_
 ·have hk := (gs hx).1
  simp at hk
  subst hk
  simp at hx; subst hx; rfl
 ·rintro ⟨l, a, nodes, segs, i⟩ ⟨i1, i2, i3, i4, i5, i6⟩
  dsimp only at i1 i2 i3 i4 i5 i6
  unfold L.zhiu.B2
  refine Ok.iteD (fun h => ?_) fun h => .pure ⟨i1, by dsimp only at h ⊢; omega, by dsimp only at h ⊢; omega, i5, i6⟩
  dsimp only at h ⊢
  obtain ⟨k, hk⟩ : ∃ k, k = segs.length := ⟨_, rfl⟩
  have hkl : nodes.length = k + 1 := by omega
  have hname : ∃ x, bytes? ([IntKind.u8.wrap (wr (97 + ((k + 1 : Nat) : Int)))] : List Int) = some x ∧ cat? (⟨#[110]⟩ : ByteArray) x = some (nm 110 (k + 1)) := by
   have : k = 0 ∨ k = 1 ∨ k = 2 ∨ k = 3 ∨ k = 4 := by omega
   rcases this with h | h | h | h | h <;> rw [h] <;> exact ⟨_, rfl, rfl⟩
  obtain ⟨x, x1, x2⟩ := hname
  rw [hkl]
  refine .bind' (.eq x1 (.bind' (.eq x2 (.bind' (.app (by simp; omega) ?_)))))
  rw [wr_id (by omega : _ ≤ ((k + 1 : Nat) : Int) - 1 ∧ _), show ((k + 1 : Nat) : Int) - 1 = (k : Int) by omega]
  obtain ⟨sg, hsg, hs1, hs2⟩ := seg_ok (s := ⟨l, a⟩) i1 (nodes := m + 1) (k := k) (a := (k : Int)) (b := ((k + 1 : Nat) : Int)) (by omega) (by omega) (by omega) (by omega)
  have he := seg_ends hsg
  refine .bind' (.eq hsg (.bind' (.app (by simp; omega) (.pure ⟨⟨hs2, ?_, ?_, ?_, ?_, ?_⟩, ?_⟩))))
  ·simp; omega
  ·dsimp only; rw [wr_id (by omega)]; simp; omega
  ·dsimp only; rw [wr_id (by omega)]; omega
  ·exact app_all (P := fun k x => x = nm 110 k) i5 (by rw [hkl])
  ·refine app_all (P := fun k s => SegOk (m + 1) k s ∧ (s.From = (k : Int) ∧ s.To = (k : Int) + 1 ∨ s.From = (k : Int) + 1 ∧ s.To = (k : Int))) i6 ?_
   rw [← hk]
   exact ⟨hs1, by omega⟩
  ·dsimp only; rw [wr_id (by omega)]; omega
 ·rintro ⟨l, a, nodes, segs⟩ ⟨i1, i2, i3, i5, i6⟩
  dsimp only at i1 i2 i3 i5 i6
  unfold L.zhiu.J1
  dsimp only
  rw [wr_id (by omega), i2, show ((m + 1 : Nat) : Int) - 1 = (m : Int) by omega]
  have port : ∀ (k : Nat) (q : Port), ([(⟨(⟨#[113, 97]⟩ : ByteArray), 0, 0⟩ : Port), (⟨(⟨#[113, 98]⟩ : ByteArray), (m : Int), 0⟩ : Port)] : List Port)[k]? = some q → k = 0 ∧ q = ⟨(⟨#[113, 97]⟩ : ByteArray), 0, 0⟩ ∨ k = 1 ∧ q = ⟨(⟨#[113, 98]⟩ : ByteArray), (m : Int), 0⟩ := by
   intro k q hq
   rcases k with _ | _ | k
   ·exact .inl ⟨rfl, by simpa using hq.symm⟩
   ·exact .inr ⟨rfl, by simpa using hq.symm⟩
   ·simp at hq
  refine .pure ⟨i1, m, ⟨⟨by dsimp only; omega, i5, by dsimp only; omega, fun k s hs => ?_, by simp, fun k q hq => ?_, fun i j q q' hij hq hq' => ?_, by simp, by simp, by simp, by dsimp only; omega, by dsimp only; omega⟩, by omega, i2, i3, rfl, ⟨_, rfl, rfl⟩, ⟨_, rfl, rfl⟩, rfl, fun i s hs => (i6 i s hs).2⟩⟩
  ·rw [i2]; exact (i6 k s hs).1
  ·rcases port k q hq with ⟨rfl, rfl⟩ | ⟨rfl, rfl⟩
   ·exact ⟨rfl, by dsimp only; omega, by dsimp only; omega⟩
   ·exact ⟨rfl, by dsimp only; omega, by dsimp only; omega⟩
  ·rcases port i q hq with ⟨rfl, rfl⟩ | ⟨rfl, rfl⟩ <;> rcases port j q' hq' with ⟨rfl, rfl⟩ | ⟨rfl, rfl⟩
   ·omega
   ·dsimp only; omega
   ·omega
   ·omega
structure Wpl (n : Network) (a : Int) (p : Plan) : Prop where
 rl : p.Rates.length = n.Segments.length
 rate : ∀ (i : Nat) (s : Segment) (x : Int), n.Segments[i]? = some s → p.Rates[i]? = some x → x = if s.From < s.To then a else -a
 ports : p.Ports = [a, -a]
 pumps : p.Pumps = []
section
variable {n : Network} {p : Plan} {m : Nat} {a : Int}
theorem Wpl.planOk (hc : Chain n m) (hp : Wpl n a p) (ha : -1000 ≤ a ∧ a ≤ 1000) (hcap : ∀ (i : Nat) (s : Segment), n.Segments[i]? = some s → -s.Capacity ≤ a ∧ a ≤ s.Capacity) : PlanOk n p := by
 have hns := hc.ns
 obtain ⟨x0, hx0, hn0⟩ := hc.p0
 obtain ⟨x1, hx1, hn1⟩ := hc.p1
 have hports : n.Ports = [x0, x1] := by
  have := hc.np
  match h : n.Ports with
  | [y0, y1] => rw [h] at hx0 hx1; simp at hx0 hx1; rw [hx0, hx1]
  | [] => rw [h] at this; simp at this
  | [_] => rw [h] at this; simp at this
  | _ :: _ :: _ :: _ => rw [h] at this; simp at this
 refine ⟨hp.rl, by rw [hp.ports, hc.np]; rfl, by rw [hp.pumps, hc.st]; rfl, fun k r s hr hs => ?_, fun k x hx => ?_, fun v => ?_, ?_⟩
 ·have h1 := hp.rate k s r hs hr
  have h2 := hcap k s hs
  split at h1 <;> omega
 ·rw [hp.ports] at hx
  rcases k with _ | _ | k
  ·simp at hx; omega
  ·simp at hx; omega
  ·simp at hx
 ·have tele : ∀ k, k ≤ m → (sumN k fun i => (wt n v).getD i 0 * p.Rates.getD i 0) = a * (ind (k : Int) v - ind 0 v) := by
   intro k
   induction k with
   | zero => intro _; simp [sumN]
   | succ k ih =>
    intro hk
    obtain ⟨s, hs⟩ := get_of (l := n.Segments) (k := k) (by omega)
    obtain ⟨x, hx⟩ := get_of (l := p.Rates) (k := k) (by have := hp.rl; omega)
    have h1 := hp.rate k s x hs hx
    have hw : (wt n v).getD k 0 = ind s.To v - ind s.From v := by
     rw [List.getD_eq_getElem?_getD, wt, List.getElem?_map, hs]; rfl
    have hx' : p.Rates.getD k 0 = x := by rw [List.getD_eq_getElem?_getD, hx]; rfl
    simp only [sumN]
    rw [ih (by omega), hw, hx']
    have e : ((k + 1 : Nat) : Int) = (k : Int) + 1 := by omega
    rw [e]
    rcases hc.ends k s hs with ⟨e1, e2⟩ | ⟨e1, e2⟩
    ·rw [if_pos (by omega)] at h1
     rw [e1, e2, h1, Int.mul_comm _ a, ← Int.mul_add]; congr 1; omega
    ·rw [if_neg (by omega)] at h1
     rw [e1, e2, h1, Int.mul_neg, Int.mul_comm _ a, ← Int.mul_neg, ← Int.mul_add]; congr 1; omega
  rw [dot_sumN _ _ (by simp [wt, hp.rl]), hp.rl, hns, tele m (Nat.le_refl _), hp.ports]
  have : wp n v = [ind 0 v, ind (m : Int) v] := by simp [wp, hports, hn0, hn1]
  rw [this]
  simp only [dot]
  rw [Int.mul_sub, Int.mul_neg, Int.mul_comm (ind 0 v), Int.mul_comm (ind (m : Int) v)]; omega
 ·rcases Int.lt_trichotomy a 0 with h | h | h
  ·refine .inr fun k r s hr hs => ?_
   have h1 := hp.rate k s r hs hr
   have := hc.ends k s hs
   split at h1 <;> omega
  ·refine .inl fun k r s hr hs => ?_
   have h1 := hp.rate k s r hs hr
   split at h1 <;> omega
  ·refine .inl fun k r s hr hs => ?_
   have h1 := hp.rate k s r hs hr
   have := hc.ends k s hs
   split at h1 <;> omega
theorem Wpl.ends (hc : Chain n m) (hp : Wpl n a p) {i : Nat} {s : Segment} {x : Int} (hs : n.Segments[i]? = some s) (hx : p.Rates[i]? = some x) (h0 : a ≠ 0) :
  x ≠ 0 ∧ max x (-x) = max a (-a) ∧ L.ztzg s x = if 0 < a then ((i : Int), (i : Int) + 1) else ((i : Int) + 1, (i : Int)) := by
 have h1 := hp.rate i s x hs hx
 have h2 := hc.ends i s hs
 have hx0 : x ≠ 0 := by split at h1 <;> omega
 refine ⟨hx0, by split at h1 <;> omega, ?_⟩
 rcases endsOf (s := s) hx0 with ⟨he, h3⟩ | ⟨he, h3⟩ <;> rw [he] <;> rcases h2 with ⟨e1, e2⟩ | ⟨e1, e2⟩ <;> rw [e1, e2]
 ·rw [if_pos (by omega)] at h1; rw [if_neg (by omega)]
 ·rw [if_neg (by omega)] at h1; rw [if_pos (by omega)]
 ·rw [if_pos (by omega)] at h1; rw [if_pos (by omega)]
 ·rw [if_neg (by omega)] at h1; rw [if_neg (by omega)]
theorem Wpl.cS (hc : Chain n m) (hp : Wpl n a p) (h0 : a ≠ 0) (v : Int) (b : Bool) (i : Nat) :
  Go.Proofs.Ytligpmmgdjipbaa.cS n p v b i = if i < m ∧ v = (if (0 < a) = (b = true) then (i : Int) + 1 else (i : Int)) then some (max a (-a)) else none := by
 by_cases hi : i < m
 ·obtain ⟨s, hs⟩ := get_of (l := n.Segments) (k := i) (by have := hc.ns; omega)
  obtain ⟨x, hx⟩ := get_of (l := p.Rates) (k := i) (by have := hp.rl; have := hc.ns; omega)
  obtain ⟨e1, e2, e3⟩ := hp.ends hc hs hx h0
  rw [cS_of hs hx, e2, e3]
  by_cases ha : 0 < a <;> cases b <;> simp [ha, e1, hi] <;> congr 1 <;> exact propext ⟨Eq.symm, Eq.symm⟩
 ·rw [if_neg (fun h => hi h.1)]
  cases h : Go.Proofs.Ytligpmmgdjipbaa.cS n p v b i with
  | none => rfl
  | some y => obtain ⟨s, r, hf, _⟩ := cS_some h; exact absurd hf.lt (by rw [hc.ns]; exact hi)
theorem Wpl.cP (hc : Chain n m) (hp : Wpl n a p) (h0 : a ≠ 0) (v : Int) (b : Bool) (k : Nat) :
  Go.Proofs.Ytligpmmgdjipbaa.cP n p v b k = if (k = 0 ∧ v = 0 ∧ decide (0 < a) = b) ∨ (k = 1 ∧ v = (m : Int) ∧ decide (a < 0) = b) then some (max a (-a)) else none := by
 obtain ⟨x0, hx0, hn0⟩ := hc.p0
 obtain ⟨x1, hx1, hn1⟩ := hc.p1
 rcases k with _ | _ | k
 ·rw [cP_of hx0 (r := a) (by rw [hp.ports]; rfl), hn0]
  have : (0 = v ∧ a ≠ 0 ∧ decide (a > 0) = b) ↔ ((0 : Nat) = 0 ∧ v = 0 ∧ decide (0 < a) = b) ∨ ((0 : Nat) = 1 ∧ v = (m : Int) ∧ decide (a < 0) = b) :=
   ⟨fun h => .inl ⟨rfl, h.1.symm, h.2.2⟩, fun h => by rcases h with h | h; exact ⟨h.2.1.symm, h0, h.2.2⟩; exact absurd h.1 (by omega)⟩
  simp only [this]
 ·rw [cP_of hx1 (r := -a) (by rw [hp.ports]; rfl), hn1, Int.neg_neg, show max (-a) a = max a (-a) by omega]
  have hd : decide (-a > 0) = decide (a < 0) := by simp
  have : ((m : Int) = v ∧ -a ≠ 0 ∧ decide (-a > 0) = b) ↔ (0 + 1 = 0 ∧ v = 0 ∧ decide (0 < a) = b) ∨ (0 + 1 = 1 ∧ v = (m : Int) ∧ decide (a < 0) = b) :=
   ⟨fun h => .inr ⟨rfl, h.1.symm, by rw [← hd]; exact h.2.2⟩, fun h => by rcases h with h | h; exact absurd h.1 (by omega); exact ⟨h.2.1.symm, by omega, by rw [hd]; exact h.2.2⟩⟩
  simp only [this]
 ·rw [if_neg (by omega)]
  cases h : Go.Proofs.Ytligpmmgdjipbaa.cP n p v b (k + 1 + 1) with
  | none => rfl
  | some y =>
   obtain ⟨x, r, hx, _⟩ := cP_some h
   have := (gs hx).1
   have := hc.np
   omega
theorem Wpl.way (hc : Chain n m) (hp : Wpl n a p) (h1 : 1 ≤ a) : Way n p m (fun j => (j : Int)) (fun j => j) a 0 1 := by
 have h0 : a ≠ 0 := by omega
 have hm : max a (-a) = a := by omega
 have hns := hc.ns
 have ha : 0 < a := by omega
 refine ⟨h1, by rw [hc.np]; omega, by rw [hc.np]; omega, fun j hj => by omega, fun j k hj => ?_, fun j k hj => ?_, fun j i hj => ?_, fun j i hj => ?_, fun i j _ _ h => by omega, fun i j _ _ h => h, fun v v0 v1 => ?_, fun j hj => ?_⟩
 ·rw [hp.cP hc h0, hm]
  have : ((k = 0 ∧ (j : Int) = 0 ∧ decide (0 < a) = true) ∨ (k = 1 ∧ (j : Int) = (m : Int) ∧ decide (a < 0) = true)) ↔ (j = 0 ∧ k = 0) := by
   simp only [decide_eq_true_eq]; omega
  exact ite_congr (propext this) (fun _ => rfl) (fun _ => rfl)
 ·rw [hp.cP hc h0, hm]
  have : ((k = 0 ∧ (j : Int) = 0 ∧ decide (0 < a) = false) ∨ (k = 1 ∧ (j : Int) = (m : Int) ∧ decide (a < 0) = false)) ↔ (j = m ∧ k = 1) := by
   simp only [decide_eq_false_iff_not]; omega
  exact ite_congr (propext this) (fun _ => rfl) (fun _ => rfl)
 ·rw [hp.cS hc h0, hm]
  have : (i < m ∧ (j : Int) = (if (0 < a) = (true = true) then (i : Int) + 1 else (i : Int))) ↔ (0 < j ∧ i = j - 1) := by
   rw [if_pos (by simp [ha])]; omega
  exact ite_congr (propext this) (fun _ => rfl) (fun _ => rfl)
 ·rw [hp.cS hc h0, hm]
  have : (i < m ∧ (j : Int) = (if (0 < a) = (false = true) then (i : Int) + 1 else (i : Int))) ↔ (j < m ∧ i = j) := by
   rw [if_neg (by simp [ha])]; omega
  exact ite_congr (propext this) (fun _ => rfl) (fun _ => rfl)
 ·rw [hc.nn] at v1
  exact ⟨v.toNat, by omega, by omega⟩
 ·obtain ⟨s, hs⟩ := get_of (l := n.Segments) (k := j) (by omega)
  obtain ⟨x, hx⟩ := get_of (l := p.Rates) (k := j) (by have := hp.rl; omega)
  obtain ⟨e1, _, e3⟩ := hp.ends hc hs hx h0
  rw [if_pos ha] at e3
  exact ⟨s, x, ⟨hs, hx, e1⟩, by rw [e3], by rw [e3]; simp⟩
theorem Wpl.back (hc : Chain n m) (hp : Wpl n (-a) p) (h1 : 1 ≤ a) : Way n p m (fun j => (m : Int) - j) (fun j => m - 1 - j) a 1 0 := by
 have h0 : -a ≠ 0 := by omega
 have hm : max (-a) (- -a) = a := by omega
 have hns := hc.ns
 have ha : ¬ 0 < -a := by omega
 refine ⟨h1, by rw [hc.np]; omega, by rw [hc.np]; omega, fun j hj => by omega, fun j k hj => ?_, fun j k hj => ?_, fun j i hj => ?_, fun j i hj => ?_, fun i j hi hj h => by omega, fun i j hi hj h => by omega, fun v v0 v1 => ?_, fun j hj => ?_⟩
 ·rw [hp.cP hc h0, hm]
  have : ((k = 0 ∧ (m : Int) - j = 0 ∧ decide (0 < -a) = true) ∨ (k = 1 ∧ (m : Int) - j = (m : Int) ∧ decide (-a < 0) = true)) ↔ (j = 0 ∧ k = 1) := by
   simp only [decide_eq_true_eq]; omega
  exact ite_congr (propext this) (fun _ => rfl) (fun _ => rfl)
 ·rw [hp.cP hc h0, hm]
  have : ((k = 0 ∧ (m : Int) - j = 0 ∧ decide (0 < -a) = false) ∨ (k = 1 ∧ (m : Int) - j = (m : Int) ∧ decide (-a < 0) = false)) ↔ (j = m ∧ k = 0) := by
   simp only [decide_eq_false_iff_not]; omega
  exact ite_congr (propext this) (fun _ => rfl) (fun _ => rfl)
 ·rw [hp.cS hc h0, hm]
  have : (i < m ∧ (m : Int) - j = (if (0 < -a) = (true = true) then (i : Int) + 1 else (i : Int))) ↔ (0 < j ∧ i = m - 1 - (j - 1)) := by
   rw [if_neg (by simp; omega)]; omega
  exact ite_congr (propext this) (fun _ => rfl) (fun _ => rfl)
 ·rw [hp.cS hc h0, hm]
  have : (i < m ∧ (m : Int) - j = (if (0 < -a) = (false = true) then (i : Int) + 1 else (i : Int))) ↔ (j < m ∧ i = m - 1 - j) := by
   rw [if_pos (by simp; omega)]; omega
  exact ite_congr (propext this) (fun _ => rfl) (fun _ => rfl)
 ·rw [hc.nn] at v1
  exact ⟨m - v.toNat, by omega, by omega⟩
 ·obtain ⟨s, hs⟩ := get_of (l := n.Segments) (k := m - 1 - j) (by omega)
  obtain ⟨x, hx⟩ := get_of (l := p.Rates) (k := m - 1 - j) (by have := hp.rl; omega)
  obtain ⟨e1, _, e3⟩ := hp.ends hc hs hx h0
  rw [if_neg ha] at e3
  exact ⟨s, x, ⟨hs, hx, e1⟩, by rw [e3]; dsimp only; omega, by rw [e3]; dsimp only; omega⟩
end
theorem turned14 {f : List Piece} (hl : f.length ≤ 100000) : L.zyjz f = some f.reverse := by
 have : Ok (L.zyjz f) fun r => r = f.reverse := by
  unfold L.zyjz
  rw [wr_id (by omega)]
  refine .bind (Q := fun r => r = f.reverse) (.loop (fun st => ∃ k : Nat, k ≤ f.length ∧ st.2 = (k : Int) - 1 ∧ st.1 = (f.drop k).reverse) (fun st => (st.2 + 1).toNat) ⟨f.length, by omega, rfl, by simp⟩ (by dsimp only; omega) ?_) (by rintro _ rfl; exact .pure rfl)
  rintro ⟨o, i⟩ ⟨k, hk, h1, h2⟩
  dsimp only at h1 h2
  subst h1; subst h2
  unfold L.zyjz.B2
  refine Ok.iteD (fun h => ?_) fun h => .pure ?_
  ·dsimp only at h ⊢
   obtain ⟨j, rfl⟩ : ∃ j, k = j + 1 := ⟨k - 1, by omega⟩
   obtain ⟨x, hx⟩ := get_of (l := f) (k := j) (by omega)
   rw [show ((j + 1 : Nat) : Int) - 1 = (j : Int) by omega]
   refine .bind' (.eq (ix_nat hx) (.bind' (.app (by simp; omega) (.pure ⟨⟨j, by omega, ?_, ?_⟩, ?_⟩))))
   ·dsimp only; rw [wr_id (by omega)]
   ·dsimp only
    have hj := (gs hx).1
    have e : f.drop j = x :: f.drop (j + 1) := by
     rw [List.drop_eq_getElem_cons hj]; congr 1
     exact (gs hx).2
    rw [e]; simp
   ·dsimp only; rw [wr_id (by omega)]; omega
  ·dsimp only at h ⊢
   obtain rfl : k = 0 := by omega
   simp
 obtain ⟨r, h1, rfl⟩ := this
 exact h1
theorem split14 {f : List Piece} (hf : ∀ p, p ∈ f → 0 ≤ p.Volume) (hl : vol f ≤ 100000000) (hlen : f.length ≤ 100000) {m : Nat} (hm : m ≤ 100000000) : L.zewb f (m : Int) = some (rle ((lit f).take m), rle ((lit f).drop m)) := by
 have : Ok (L.zewb f (m : Int)) fun r => r = (rle ((lit f).take m), rle ((lit f).drop m)) := by
  unfold L.zewb
  refine .bind (Q := fun st : Int × List Piece × List Piece => (lit st.2.1 = (lit f).take m ∧ (∀ p, p ∈ st.2.1 → 0 ≤ p.Volume)) ∧ (lit st.2.2 = (lit f).drop m ∧ ∀ p, p ∈ st.2.2 → 0 ≤ p.Volume))
   (.forS (fun k st => st.1 = ((m - (lit (f.take k)).length : Nat) : Int) ∧ st.2.1.length = k ∧ st.2.2.length = k ∧ (lit st.2.1 = (lit (f.take k)).take m ∧ (∀ p, p ∈ st.2.1 → 0 ≤ p.Volume)) ∧ (lit st.2.2 = (lit (f.take k)).drop m ∧ ∀ p, p ∈ st.2.2 → 0 ≤ p.Volume))
    ⟨by simp [lit_nil], rfl, rfl, by simp [lit_nil], by simp [lit_nil]⟩ ?_ ?_) ?_
  ·rintro k x ⟨rem, a, b⟩ hx ⟨h0, ha, hb, ⟨h1, h1'⟩, h2, h2'⟩
   dsimp only at h0 ha hb h1 h1' h2 h2'
   subst h0
   have hx0 := hf x (mg hx)
   have hxv := vol_mem hf (mg hx)
   have hkl := (gs hx).1
   have hlk : lit (f.take (k + 1)) = lit (f.take k) ++ List.replicate x.Volume.toNat x.Batch := by
    rw [List.take_add_one, hx]; simp [lit_app, lit_one]
   unfold L.zewb.B2
   dsimp only
   refine .bind' (.app (by simp; omega) (.bind' (.app (by simp; omega) ?_)))
   unfold L.zewb.J3
   rw [wr_id (by omega), wr_id (by omega)]
   refine .pure ⟨?_, by simp [ha], by simp [hb], ⟨?_, ?_⟩, ?_, ?_⟩
   ·dsimp only; rw [hlk, List.length_append, List.length_replicate]; omega
   ·dsimp only; rw [lit_app, lit_one, h1, hlk, List.take_append]
    congr 1
    rw [List.take_replicate]; dsimp only; congr 1; omega
   ·intro p hp
    rcases List.mem_append.1 hp with hp | hp
    ·exact h1' p hp
    ·simp at hp; subst hp; dsimp only; omega
   ·dsimp only; rw [lit_app, lit_one, h2, hlk, List.drop_append]
    congr 1
    rw [List.drop_replicate]; dsimp only; congr 1; omega
   ·intro p hp
    rcases List.mem_append.1 hp with hp | hp
    ·exact h2' p hp
    ·simp at hp; subst hp; dsimp only; omega
  ·rintro ⟨_, a, b⟩ ⟨_, _, _, ⟨h1, h1'⟩, h2, h2'⟩
   rw [List.take_length] at h1 h2
   exact ⟨⟨h1, h1'⟩, h2, h2'⟩
  ·rintro ⟨_, a, b⟩ ⟨⟨h1, h1'⟩, h2, h2'⟩
   dsimp only at h1 h1' h2 h2'
   have hl' := lit_len hf
   have va := lit_len h1'
   have vb := lit_len h2'
   rw [h1, List.length_take] at va
   rw [h2, List.length_drop] at vb
   unfold L.zewb.J1
   dsimp only
   refine .bind' (.eq (joined_rle h1' (by omega)) (.bind' (.eq (joined_rle h2' (by omega)) (.pure ?_))))
   rw [h1, h2]
 obtain ⟨r, h1, rfl⟩ := this
 exact h1
theorem cat_len {Q : Nat → List Int} {c : Nat → Int} : ∀ {m : Nat}, (∀ j, j < m → ((Q j).length : Int) = c j) → ((cat Q m).length : Int) = sumN m c
 | 0, _ => rfl
 | m + 1, h => by
  simp only [cat, sumN]
  rw [List.length_append]
  have := cat_len (m := m) fun j hj => h j (by omega)
  have := h m (by omega)
  omega
theorem advanceArrives (l : List Int) : L.zxvu l = some true := by
 have : Ok (L.zxvu l) fun r => r = true := by
  unfold L.zxvu
  refine .bind (new_ok l) fun d0 hd0 => .bind (chain_ok hd0) ?_
  rintro ⟨n, d1⟩ ⟨hd1, m, hc⟩
  dsimp only at hc hd1 ⊢
  have hn := hc.net
  have hns := hc.ns; have hm1 := hc.m1
  have wake : Ok (Option.bind L.zdqe fun r => some r) fun r => r = true := by rw [awake18]; exact .pure rfl
  let cp : Nat → Int := fun i => ((n.Segments[i]?).map (·.Capacity)).getD 0
  have hcp : ∀ (i : Nat) (s : Segment), n.Segments[i]? = some s → cp i = s.Capacity := fun i s hs => by simp only [cp, hs]; rfl
  refine .bind (Q := fun st : Int × Int => 1 ≤ st.1 ∧ st.1 ≤ 9 ∧ st.2 = sumN m cp ∧ st.2 ≤ 5000 ∧ ∀ (i : Nat) (s : Segment), n.Segments[i]? = some s → st.1 ≤ s.Capacity)
   (.forS (fun k st => 1 ≤ st.1 ∧ st.1 ≤ 9 ∧ st.2 = sumN k cp ∧ 0 ≤ st.2 ∧ st.2 ≤ 1000 * k ∧ ∀ (i : Nat) (s : Segment), i < k → n.Segments[i]? = some s → st.1 ≤ s.Capacity) ⟨by omega, by omega, rfl, by omega, by omega, fun i s h => absurd h (by omega)⟩ ?_ ?_) ?_
  ·rintro k s ⟨a, b⟩ hs ⟨h1, h2, h3, h4, h5, h6⟩
   dsimp only at h1 h2 h3 h4 h5 h6
   have hk := (gs hs).1
   have hcap := (hn.segs k s hs).cap
   unfold L.zxvu.B9
   refine .pure ⟨by dsimp only; omega, by dsimp only; omega, ?_, ?_, ?_, fun i s' hi hs' => ?_⟩
   ·dsimp only; rw [wr_id (by omega)]; simp only [sumN]; rw [hcp k s hs, h3]
   ·dsimp only; rw [wr_id (by omega)]; omega
   ·dsimp only; rw [wr_id (by omega)]; omega
   ·dsimp only
    by_cases e : i = k
    ·subst e; rw [hs] at hs'; cases hs'; omega
    ·have := h6 i s' (by omega) hs'; omega
  ·rintro ⟨a, b⟩ ⟨h1, h2, h3, h4, h5, h6⟩
   rw [hns] at h3 h5
   exact ⟨h1, h2, h3, by dsimp only at h5 ⊢; omega, fun i s hs => h6 i s (gs hs).1 hs⟩
  rintro ⟨a, holds⟩ ⟨a1, a9, hh, hh5, hle⟩
  dsimp only at a1 a9 hh hh5 hle
  unfold L.zxvu.J1
  refine .bind (Q := fun st : List Int × List Hop => st.1.length = m ∧ st.2.length = m ∧ ∀ (i : Nat) (s : Segment), n.Segments[i]? = some s → st.1[i]? = some (if s.From < s.To then a else -a) ∧ st.2[i]? = some (⟨(i : Int), decide (s.From > s.To)⟩ : Hop))
   (.forS (fun k st => st.1.length = k ∧ st.2.length = k ∧ ∀ (i : Nat) (s : Segment), i < k → n.Segments[i]? = some s → st.1[i]? = some (if s.From < s.To then a else -a) ∧ st.2[i]? = some (⟨(i : Int), decide (s.From > s.To)⟩ : Hop)) ⟨rfl, rfl, fun i s h => absurd h (by omega)⟩ ?_ ?_) ?_
  ·rintro k s ⟨rs, ws⟩ hs ⟨h1, h2, h3⟩
   dsimp only at hs h1 h2 h3
   have hk := (gs hs).1
   have he := hc.ends k s hs
   have fin : ∀ x, x = (if s.From < s.To then a else -a) → Ok (L.zxvu.J8 k s (rs, ws) (rs ++ [x])) fun st => st.1.length = k + 1 ∧ st.2.length = k + 1 ∧ ∀ (i : Nat) (s : Segment), i < k + 1 → n.Segments[i]? = some s → st.1[i]? = some (if s.From < s.To then a else -a) ∧ st.2[i]? = some (⟨(i : Int), decide (s.From > s.To)⟩ : Hop) := by
    rintro _ rfl
    unfold L.zxvu.J8
    refine .bind' (.app (by simp; omega) (.pure ⟨by simp [h1], by simp [h2], fun i s' hi hs' => ?_⟩))
    dsimp only
    by_cases e : i = k
    ·subst e
     rw [hs] at hs'; cases hs'
     rw [List.getElem?_append_right (by omega), List.getElem?_append_right (by omega)]
     simp [h1, h2]
    ·rw [List.getElem?_append_left (by omega), List.getElem?_append_left (by omega)]
     exact h3 i s' (by omega) hs'
   unfold L.zxvu.B7
   refine .bind' (.app (by simp; omega) (Ok.iteD (fun h => ?_) fun h => fin a (by rw [if_pos (by omega)])))
   refine .bind' (.eq (ix_nat (x := a) ?_) ?_)
   ·dsimp only; rw [List.getElem?_append_right (by omega)]; simp [h1]
   ·dsimp only
    rw [wr_id (by omega), show (0 : Int) - a = -a by omega]
    have e : (rs ++ [a]).set k (-a) = rs ++ [-a] := by rw [← h1]; simp
    rw [e]
    exact fin (-a) (by rw [if_neg (by omega)])
  ·rintro ⟨rs, ws⟩ ⟨h1, h2, h3⟩
   rw [hns] at h1 h2
   exact ⟨h1, h2, fun i s hs => h3 i s (gs hs).1 hs⟩
  rintro ⟨rs, ws⟩ ⟨r1, r2, r3⟩
  dsimp only at r1 r2 r3
  have hp : Wpl n a ⟨rs, [a, -a], []⟩ := ⟨by rw [hns]; exact r1, fun i s x hs hx => by rw [(r3 i s hs).1] at hx; cases hx; rfl, rfl, rfl⟩
  have hL : Ln n ⟨rs, [a, -a], []⟩ [9, 0] := ⟨hn, (hp.planOk hc (by omega) fun i s hs => by have := hle i s hs; omega).flow, by rw [hc.np]; rfl, by simp⟩
  have hw := hp.way hc a1
  unfold L.zxvu.J2
  refine .bind (fills_ok hn hd1 (m := 3) (by omega)) ?_
  rintro ⟨fs, d2⟩ ⟨hd2, F, hf, _⟩
  dsimp only at hf ⊢
  have hq : ∀ j, j < m → ∃ s, n.Segments[j]? = some s ∧ que ⟨rs, [a, -a], []⟩ (fun j => j) F j = if s.From > s.To then F j else (F j).reverse := fun j hj => by
   obtain ⟨s, hs⟩ := get_of (l := n.Segments) (k := j) (by omega)
   refine ⟨s, hs, ?_⟩
   have he := hc.ends j s hs
   have : rs.getD j 0 = if s.From < s.To then a else -a := by rw [List.getD_eq_getElem?_getD, (r3 j s hs).1]; rfl
   unfold que qu
   dsimp only
   rw [this]
   by_cases e : s.From < s.To
   ·rw [if_pos e, if_neg (by omega), if_neg (by omega)]
   ·rw [if_neg e, if_pos (by omega), if_pos (by omega)]
  refine .bind (Q := fun w : List Piece => lit w = cat (que ⟨rs, [a, -a], []⟩ (fun j => j) F) m ∧ (∀ p, p ∈ w → 0 ≤ p.Volume) ∧ w.length ≤ 1000) (.loop (fun st => ∃ k : Nat, k ≤ m ∧ st.2 = (k : Int) - 1 ∧ lit st.1 ++ cat (que ⟨rs, [a, -a], []⟩ (fun j => j) F) k = cat (que ⟨rs, [a, -a], []⟩ (fun j => j) F) m ∧ (∀ p, p ∈ st.1 → 0 ≤ p.Volume) ∧ st.1.length + 200 * k ≤ 1000) (fun st => (st.2 + 1).toNat)
   ⟨m, by omega, by dsimp only; rw [r2, wr_id (by omega)], by simp [lit_nil], by simp, by simp; omega⟩ (by dsimp only; rw [r2, wr_id (by omega)]; omega) ?_) ?_
  ·rintro ⟨w, i⟩ ⟨k, hk, h1, h2, h3, h4⟩
   dsimp only at h1 h2 h3 h4
   subst h1
   unfold L.zxvu.B5
   refine Ok.iteD (fun h => ?_) fun h => .pure ?_
   ·dsimp only at h ⊢
    obtain ⟨j, rfl⟩ : ∃ j, k = j + 1 := ⟨k - 1, by omega⟩
    rw [show ((j + 1 : Nat) : Int) - 1 = (j : Int) by omega]
    obtain ⟨s, hs, hqj⟩ := hq j (by omega)
    have hg := hf.rp.get j (by omega)
    have hv := hf.vd j (by omega)
    have hvl := hv.len
    have hadd : ∀ f : List Piece, (f.length = (rle (F j)).length) → (∀ p, p ∈ f → 0 ≤ p.Volume) → lit f = que ⟨rs, [a, -a], []⟩ (fun j => j) F j → Ok (L.zxvu.J6 (w, (j : Int)) (w ++ f)) (Sum.elim (fun st => (∃ k : Nat, k ≤ m ∧ st.2 = (k : Int) - 1 ∧ lit st.1 ++ cat (que ⟨rs, [a, -a], []⟩ (fun j => j) F) k = cat (que ⟨rs, [a, -a], []⟩ (fun j => j) F) m ∧ (∀ p, p ∈ st.1 → 0 ≤ p.Volume) ∧ st.1.length + 200 * k ≤ 1000) ∧ (st.2 + 1).toNat < ((j : Int) + 1).toNat) fun w : List Piece => lit w = cat (que ⟨rs, [a, -a], []⟩ (fun j => j) F) m ∧ (∀ p, p ∈ w → 0 ≤ p.Volume) ∧ w.length ≤ 1000) := by
     intro f f1 f2 f3
     unfold L.zxvu.J6
     refine .pure ⟨⟨j, by omega, ?_, ?_, ?_, ?_⟩, ?_⟩
     ·dsimp only; rw [wr_id (by omega)]
     ·dsimp only; rw [lit_app, f3, ← h2]; simp only [cat]; simp
     ·intro p hp
      rcases List.mem_append.1 hp with hp | hp
      ·exact h3 p hp
      ·exact f2 p hp
     ·dsimp only; rw [List.length_append]; omega
     ·dsimp only; rw [wr_id (by omega)]; omega
    refine .bind' (.eq (ix_nat (r3 j s hs).2) ?_)
    dsimp only
    refine Ok.iteD (fun hb => ?_) fun hb => ?_
    ·rw [if_pos hb] at hqj
     refine .bind' (.eq (ix_nat hg) (.bind' (.app (by dsimp only; omega) (hadd _ rfl hv.nn (by rw [lit_rle, hqj])))))
    ·rw [if_neg hb] at hqj
     refine .bind' (.eq (ix_nat hg) (.bind' (.eq (turned14 (by dsimp only; omega)) (.bind' (.app (by simp; omega) (hadd _ (by simp) (fun p hp => hv.nn p (by simpa using hp)) (by dsimp only; rw [lit_rev, lit_rle, hqj])))))))
   ·dsimp only at h
    obtain rfl : k = 0 := by omega
    refine ⟨by simpa [cat] using h2, h3, by omega⟩
  rintro w ⟨w1, w2, w3⟩
  have hT : ((cat (que ⟨rs, [a, -a], []⟩ (fun j => j) F) m).length : Int) = holds := by
   rw [cat_len (c := cp) fun j hj => ?_, hh]
   obtain ⟨s, hs⟩ := get_of (l := n.Segments) (k := j) (by omega)
   unfold que
   rw [qu_len, hcp j s hs]; exact hf.cap j s hs
  have hvw := lit_len w2
  rw [w1, hT] at hvw
  unfold L.zxvu.J3
  dsimp only
  have hdiv : 0 ≤ holds.tdiv a ∧ holds.tdiv a ≤ holds ∧ holds.tdiv a * a ≤ holds := by
   rw [Int.tdiv_eq_ediv_of_nonneg (by omega)]
   exact ⟨Int.ediv_nonneg (by omega) (by omega), Int.ediv_le_self _ (by omega), Int.ediv_mul_le _ (by omega)⟩
  refine .bind' (.quo (by omega) ?_)
  rw [wr_id (by omega : _ ≤ (0 : Int) - a ∧ _), wr_id (by omega : _ ≤ holds.tdiv a ∧ _), show (0 : Int) - a = -a by omega, wr_id (by omega : _ ≤ holds.tdiv a + 2 ∧ _)]
  obtain ⟨t, ht⟩ := nat_of (show 0 ≤ min 400 (holds.tdiv a + 2) by omega)
  have hta : (t : Int) * a ≤ holds + 2 * a := by
   have h1 : (t : Int) * a ≤ (holds.tdiv a + 2) * a := Int.mul_le_mul_of_nonneg_right (by omega) (by omega)
   rw [Int.add_mul] at h1; omega
  have hta0 : 0 ≤ (t : Int) * a := Int.mul_nonneg (by omega) (by omega)
  rw [ht]
  obtain ⟨⟨next, out, e⟩, hq1, hqq⟩ := Run_ok hL hf (t := t) (by omega)
  refine .bind' (.eq hq1 ?_)
  rcases hqq with ⟨hqq, _⟩ | ⟨hqq, F', A, q1, q2⟩
  ·cases hqq
   exact Ok.iteE (fun _ => wake) fun h => absurd rfl h
  ·dsimp only at hqq q1 q2
   subst hqq
   refine Ok.iteE (fun h => by dsimp only at h; omega) fun _ => ?_
   rw [if_neg (by simp [q2.len, hc.np])]
   refine .bind' (.app (by simp; omega) ?_)
   obtain ⟨N, hN⟩ := nat_of hta0
   have hN' : N = t * a.toNat := by
    have : ((t * a.toNat : Nat) : Int) = (t : Int) * a := by rw [Int.natCast_mul, Int.toNat_of_nonneg (by omega)]
    omega
   rw [wr_id (by omega : _ ≤ 2 * a ∧ _), wr_id (by omega : _ ≤ (t : Int) * a ∧ _), hN]
   refine .bind' (.eq (split14 (f := w ++ [(⟨9, 2 * a⟩ : Piece)]) (fun p hp => ?_) ?_ (by simp; omega) (by omega)) ?_)
   ·rcases List.mem_append.1 hp with hp | hp
    ·exact w2 p hp
    ·simp at hp; subst hp; dsimp only; omega
   ·rw [vol_app, ← hvw]; simp [vol]; omega
   have h1 : out[1]? = some (rle (A 1)) := q2.get 1 (by rw [hc.np]; omega)
   refine .bind' (.eq (ix_nat h1) ?_)
   obtain ⟨k1, k2⟩ := way_tks hL hw q1
   have e : A 1 = (lit (w ++ [(⟨9, 2 * a⟩ : Piece)])).take N := by
    have e1 : A 1 = (A 1 ++ cat (que ⟨rs, [a, -a], []⟩ (fun j => j) F') m).take N := by rw [hN', ← k2, List.take_left]
    rw [e1, k1, lit_app, lit_one, w1, List.take_append, List.take_append, List.take_replicate, List.take_replicate]
    dsimp only [List.getD]
    congr 2
    omega
   dsimp only
   rw [e, same14_refl, Option.bind_some, if_pos rfl, awake18]
   exact .pure rfl
 obtain ⟨r, h1, rfl⟩ := this
 exact h1
end Go.Proofs.Ytligpmmgdjipbaa
namespace Go.Aw
set_option linter.unusedVariables false
set_option linter.unusedSimpArgs false
open Go.ChangeShapes Go.WideShapes Go.ChangeAt Go.RowKit
section
variable {H : Type} {enc : TypeId × Value → H} {P : Program}
theorem trodAll_below (hl : laidOutB P = true) {W W' : World} (hb : Below W.heap.size W W') : ∀ {ts : List TypeId} {vs : List Value} {ds : List (DataW H)} {ps : List MemPlace},
  (∀ t, t ∈ ts → P.readableRec t = true ∧ t < P.types.size) → (∀ x, x ∈ ps → x.block < W.heap.size) → DataW.TrodAll enc P W 0 (fun _ => true) true ts vs ds ps →
  DataW.TrodAll enc P W' 0 (fun b => decide (b < W.heap.size)) true ts vs ds ps
 | [], vs, ds, ps, _, _, h => by
  cases vs <;> cases ds <;> simp [DataW.TrodAll] at h ⊢
  exact h
 | t :: ts, vs, ds, ps, ht, hlt, h => by
  obtain ⟨v, vs', d, ds', p, q, rfl, rfl, rfl, h1, h2⟩ := trodAll_cons h
  have hr := ht t (by simp)
  exact ⟨p, q, Below.trod hl hr.1 hr.2 h1 hb (fun x hx => hlt x (by simp [hx])), trodAll_below hl hb (fun t ht' => ht t (by simp [ht'])) (fun x hx => hlt x (by simp [hx])) h2, rfl⟩
theorem law_post {f : Func} {s : ChangeSpec} {W W' : World} {args : Array Value} {ds : List (DataW H)} {p : List MemPlace} {t : TypeId} (hW : DataW.Whole enc P f.params.toList s.vars false W args.toList ds [] (p ++ []))
  (hA : DataW.TrodAll enc P W 0 (fun _ => true) true f.params.toList args.toList ds p)
  (hres : (s.fn H (ds ++ [])).results = [.lit (.bool true)]) (hargs : (s.fn H (ds ++ [])).args = ds) (hv : (s.fn H (ds ++ [])).vars = []) (hsv : s.vars = [])
  (hrt : f.resultTypes.toList = [t]) (hu : P.underlying t = some .bool) (hl : laidOutB P = true) (hall : ∀ t, t ∈ f.params.toList → P.readableRec t = true ∧ t < P.types.size)
  (hb : Below W.heap.size W W') : s.post enc P f false true false false W args (.bool true) W' := by
 have hlt : ∀ x, x ∈ p → x.block < W.heap.size := fun x hx => hW.lt x (by simp [hx])
 have hsz : f.resultTypes.size = 1 := by rw [← Array.length_toList, hrt]; rfl
 refine ⟨ds, [], p ++ [], [], p, [], hW, ?_, ?_, ?_, hb.frame _, fun h => by cases h⟩
 ·rw [hres, hrt, hsz]
  exact trodAll_mk1 (shut_bool hu true)
 ·rw [hargs]
  exact trodAll_below hl hb hall hlt hA
 ·rw [hv, hsv]; rfl
def encK (k : IntKind) (l : List Int) : T := .list 1 (l.map fun n => [.v (.int k n)])
theorem open_list {t e : TypeId} {k : IntKind} {W : World} {base : Nat} {r : Reach} {v : Value} {d : DataW H} {ps : List MemPlace} (ht : P.underlying t = some (.slice e)) (he : P.underlying e = some (.int k)) (hc : P.cellsOf e = 1)
  (hval : Value.okWide P W r base t v) (h : DataW.Trod enc P W 0 (fun _ => true) true t v d ps) :
  ∃ l : List Int, (l.length ≤ maxL → VR (fun b => W.heap[b]?) v (encK k l)) ∧ (∀ n, n ∈ l → (Lit.int k n).wf = true) ∧ (l = [] ∨ ∃ elems spare, d = .slice elems spare ∧ l.length = elems.length) := by
 obtain ⟨a0, len, cap, rfl⟩ := okWide_slice ht hval
 obtain ⟨fuel, hf⟩ := h
 rcases open_ints ht he hc hf with ⟨hcs, hx⟩ | ⟨a, len', cap', zs, hcs, _, hl, hm, hz, hx, hcell, hwz⟩
 ·simp [Value.cells] at hcs
  obtain ⟨rfl, rfl, rfl⟩ := hcs
  exact ⟨[], fun _ => .empty _ _ _, by simp, .inl rfl⟩
 ·simp [Value.cells] at hcs
  obtain ⟨rfl, rfl, rfl⟩ := hcs
  simp only [Prod.mk.injEq] at hx
  obtain ⟨rfl, rfl⟩ := hx
  simp only [if_true] at hz
  have hlt : (zs.take len).length = len := by simp; omega
  refine ⟨zs.take len, fun hmax => ?_, fun n hn => hwz n (List.mem_of_mem_take hn), .inr ⟨_, _, rfl, by simp [lits]⟩⟩
  by_cases hl0 : len = 0
  ·subst hl0; simp only [List.take_zero, encK, List.map_nil]; exact .empty _ _ _
  ·obtain ⟨b, off, spot⟩ := a
   have hspot : spot = none := by simpa [Addr.add] using World.cell?_spot (hcell 0 (by omega))
   subst hspot
   have hcell' : ∀ i, i < zs.length → W.cell? ⟨b, off + i, none⟩ = some (.int k (zs.getD i 0)) := fun i hi => by rw [← Addr.add_mk]; exact hcell i hi
   have hc0 := hcell' 0 (by omega)
   have hcs : ∃ cs ty fr, W.heap[b]? = some (.cells cs ty fr) := by
    unfold World.cell? at hc0
    split at hc0
    ·rename_i c ty fr hh; exact ⟨_, _, _, hh⟩
    ·cases hc0
   obtain ⟨cs, ty, fr, hh⟩ := hcs
   have hcs' : ∀ i, i < zs.length → cs[off + i]? = some (.int k (zs.getD i 0)) := fun i hi => by
    have := hcell' i hi
    simpa [World.cell?, hh] using this
   have hlen : ((zs.take len).map fun n => [T.v (.int k n)]).length = len := by rw [List.length_map, hlt]
   have hbig : off + len ≤ cs.size := by
    have := (Array.getElem?_eq_some_iff.1 (hcs' (len - 1) (by omega))).1
    omega
   have hgd : ∀ i e, ((zs.take len).map fun n => [T.v (.int k n)])[i]? = some e → ∀ (j : Nat) (x : T), e[j]? = some x → j = 0 ∧ x = .v (.int k (zs.getD i 0)) ∧ cs.getD (off + i * 1 + j) undef = .int k (zs.getD i 0) := by
    intro i e he j x hx
    simp only [List.getElem?_map, Option.map_eq_some_iff] at he
    obtain ⟨n, hn, rfl⟩ := he
    have hil := (List.getElem?_eq_some_iff.1 hn).1
    rw [hlt] at hil
    rw [List.getElem?_take_of_lt hil] at hn
    have hj : j = 0 := by have := (List.getElem?_eq_some_iff.1 hx).1; simp at this; exact this
    subst hj
    simp at hx
    have hzi : zs.getD i 0 = n := by simp [List.getD, hn]
    refine ⟨rfl, by rw [hzi]; exact hx.symm, ?_⟩
    rw [Array.getD_eq_getD_getElem?, show off + i * 1 + 0 = off + i by omega, hcs' i (by omega)]; rfl
   have := VR.list (H := fun b => W.heap[b]?) b off cap 1 ((zs.take len).map fun n => [T.v (.int k n)]) cs ty fr hh (by rw [hlen]; exact hl) (by rw [List.length_map]; exact hmax) (by rw [hlen]; omega)
    (fun i e he => by simp only [List.getElem?_map, Option.map_eq_some_iff] at he; obtain ⟨n, _, rfl⟩ := he; rfl)
    (fun i e he j x hx => by rw [(hgd i e he j x hx).2.2]; rfl) (fun i e he j x hx => by rw [(hgd i e he j x hx).2.2, (hgd i e he j x hx).2.1]; exact .v _)
   rw [hlen] at this
   exact this
end
theorem law_calls {E : Env} {f : FuncId} {xs : List T} {W : World} {args : Array Value} (hgl : Held fun b => W.heap[b]?) (hc : ACalls E f xs [] fun x _ => x = .v (.bool true)) (hsz : args.size = xs.length)
  (hv : ∀ (i : Nat) (x : T), xs[i]? = some x → VR (fun b => W.heap[b]?) (args.getD i undef) x) : Calls E.P f args W fun e W' => e = .returned (.bool true) ∧ Below W.heap.size W W' := by
 refine (hc.2 (fun b => W.heap[b]?) W args hsz hv ⟨fun _ _ h => h, hgl⟩ (by simp) (by simp)).mono ?_
 rintro e w' ⟨v, x, fp', H', rfl, rfl, hvr, _, _, _, _, hs, ⟨e1, e2, e3⟩, hfr⟩
 refine ⟨by rw [hvr.v_eq], ⟨e1, e2, e3, hs, fun k hk => (hfr k hk (by simp)).1⟩⟩
end Go.Aw
