/- Plain proofs. No condition. -/
import Derived.Test.YtligpmmgdjipbaaZxP1
import Derived.Test.YtligpmmgdjipbaaZxD
import Derived.Test.YtligpmmgdjipbaaZxB1
import Derived.ProofKit
import Derived.SizedLaws
import Derived.Carry
set_option maxRecDepth 100000
namespace Go.Proofs.Ytligpmmgdjipbaa
set_option linter.unusedVariables false
set_option linter.unusedSimpArgs false
open Go.Aw
structure Chain (n : Network) (m : Nat) : Prop where
 net : NetG n
 m1 : 1 ≤ m ∧ m ≤ 5
 nn : n.Nodes.length = m + 1
 ns : n.Segments.length = m
 np : n.Ports.length = 2
 p0 : ∃ x, n.Ports[0]? = some x ∧ x.Node = 0
 p1 : ∃ x, n.Ports[1]? = some x ∧ x.Node = (m : Int)
 st : n.Stations = []
 ends : ∀ (i : Nat) (s : Segment), n.Segments[i]? = some s → s.From = (i : Int) ∧ s.To = (i : Int) + 1 ∨ s.From = (i : Int) + 1 ∧ s.To = (i : Int)
theorem seg_ends {s : Src} {k a b : Int} {r : Segment × Src} (h : L.zsex s k a b = some r) : r.1.From = a ∧ r.1.To = b ∨ r.1.From = b ∧ r.1.To = a := by
 have main : ∀ j r, L.zsex.J1 k j = some r → r.1.From = j.2.2.1 ∧ r.1.To = j.2.2.2 := by
  intro j r h
  unfold L.zsex.J1 at h
  obtain ⟨_, _, h⟩ := ob_some h
  obtain ⟨_, _, h⟩ := ob_some h
  obtain ⟨_, _, h⟩ := ob_some h
  obtain ⟨_, _, h⟩ := ob_some h
  obtain ⟨_, _, h⟩ := ob_some h
  obtain ⟨_, _, h⟩ := ob_some h
  obtain ⟨_, _, h⟩ := ob_some h
  obtain ⟨_, _, h⟩ := ob_some h
  unfold L.zsex.J2 at h
  obtain ⟨_, _, h⟩ := ob_some h
  obtain ⟨_, _, h⟩ := ob_some h
  obtain rfl := Option.some.inj h
  exact ⟨rfl, rfl⟩
 unfold L.zsex at h
 obtain ⟨x, _, h⟩ := ob_some h
 by_cases e : (x.1 == 0) = true
 ·rw [if_pos e] at h; exact .inr (main _ _ h)
 ·rw [if_neg e] at h; exact .inl (main _ _ h)
theorem chain_ok {d : Src} (hd : SrcOk d) : Ok (L.zhiu d) fun r => SrcOk r.2 ∧ ∃ m, Chain r.1 m := by
 unfold L.zhiu
 refine .bind (range_ok hd (lo := 1) (hi := 5) (by omega) (by omega) (by omega)) ?_
 rintro ⟨c, d1⟩ ⟨h1, h2, h3⟩
 dsimp only at h1 h2 h3 ⊢
 obtain ⟨m, rfl⟩ := nat_of (show 0 ≤ c by omega)
 let P : List Int × Int × List ByteArray × List Segment → Prop := fun r => SrcOk ⟨r.1, r.2.1⟩ ∧ r.2.2.1.length = m + 1 ∧ r.2.2.2.length = m ∧ (∀ (k : Nat) (x : ByteArray), r.2.2.1[k]? = some x → x = nm 110 k) ∧
  ∀ (k : Nat) (s : Segment), r.2.2.2[k]? = some s → SegOk (m + 1) k s ∧ (s.From = (k : Int) ∧ s.To = (k : Int) + 1 ∨ s.From = (k : Int) + 1 ∧ s.To = (k : Int))
 refine .bind (Q := P) (.loop (fun st => SrcOk ⟨st.1, st.2.1⟩ ∧ st.2.2.1.length = st.2.2.2.1.length + 1 ∧ (st.2.2.2.1.length : Int) + st.2.2.2.2 = m ∧ 0 ≤ st.2.2.2.2 ∧ (∀ (k : Nat) (x : ByteArray), st.2.2.1[k]? = some x → x = nm 110 k) ∧
  ∀ (k : Nat) (s : Segment), st.2.2.2.1[k]? = some s → SegOk (m + 1) k s ∧ (s.From = (k : Int) ∧ s.To = (k : Int) + 1 ∨ s.From = (k : Int) + 1 ∧ s.To = (k : Int))) (fun st => st.2.2.2.2.toNat)
  ⟨h1, rfl, by simp, by dsimp only; omega, fun k x hx => ?_, by simp⟩ (by dsimp only; omega) ?_) ?_
 ·have hk := (gs hx).1
  simp at hk
  subst hk
  simp at hx; subst hx; rfl
 ·rintro ⟨l, a, nodes, segs, i⟩ ⟨i1, i2, i3, i4, i5, i6⟩
  dsimp only at i1 i2 i3 i4 i5 i6
  unfold L.zhiu.B2
  refine Ok.iteD (fun h => ?_) fun h => .pure ⟨i1, by dsimp only at h ⊢; omega, by dsimp only at h ⊢; omega, i5, i6⟩
  dsimp only at h ⊢
  obtain ⟨k, hk⟩ : ∃ k, k = segs.length := ⟨_, rfl⟩
  have hkl : nodes.length = k + 1 := by omega
  have hname : ∃ x, bytes? ([IntKind.u8.wrap (wr (97 + ((k + 1 : Nat) : Int)))] : List Int) = some x ∧ cat? (⟨#[110]⟩ : ByteArray) x = some (nm 110 (k + 1)) := by
   have : k = 0 ∨ k = 1 ∨ k = 2 ∨ k = 3 ∨ k = 4 := by omega
   rcases this with h | h | h | h | h <;> rw [h] <;> exact ⟨_, rfl, rfl⟩
  obtain ⟨x, x1, x2⟩ := hname
  rw [hkl]
  refine .bind' (.eq x1 (.bind' (.eq x2 (.bind' (.app (by simp; omega) ?_)))))
  rw [wr_id (by omega : _ ≤ ((k + 1 : Nat) : Int) - 1 ∧ _), show ((k + 1 : Nat) : Int) - 1 = (k : Int) by omega]
  obtain ⟨sg, hsg, hs1, hs2⟩ := seg_ok (s := ⟨l, a⟩) i1 (nodes := m + 1) (k := k) (a := (k : Int)) (b := ((k + 1 : Nat) : Int)) (by omega) (by omega) (by omega) (by omega)
  have he := seg_ends hsg
  refine .bind' (.eq hsg (.bind' (.app (by simp; omega) (.pure ⟨⟨hs2, ?_, ?_, ?_, ?_, ?_⟩, ?_⟩))))
  ·simp; omega
  ·dsimp only; rw [wr_id (by omega)]; simp; omega
  ·dsimp only; rw [wr_id (by omega)]; omega
  ·exact app_all (P := fun k x => x = nm 110 k) i5 (by rw [hkl])
  ·refine app_all (P := fun k s => SegOk (m + 1) k s ∧ (s.From = (k : Int) ∧ s.To = (k : Int) + 1 ∨ s.From = (k : Int) + 1 ∧ s.To = (k : Int))) i6 ?_
   rw [← hk]
   exact ⟨hs1, by omega⟩
  ·dsimp only; rw [wr_id (by omega)]; omega
 ·rintro ⟨l, a, nodes, segs⟩ ⟨i1, i2, i3, i5, i6⟩
  dsimp only at i1 i2 i3 i5 i6
  unfold L.zhiu.J1
  dsimp only
  rw [wr_id (by omega), i2, show ((m + 1 : Nat) : Int) - 1 = (m : Int) by omega]
  have port : ∀ (k : Nat) (q : Port), ([(⟨(⟨#[113, 97]⟩ : ByteArray), 0, 0⟩ : Port), (⟨(⟨#[113, 98]⟩ : ByteArray), (m : Int), 0⟩ : Port)] : List Port)[k]? = some q → k = 0 ∧ q = ⟨(⟨#[113, 97]⟩ : ByteArray), 0, 0⟩ ∨ k = 1 ∧ q = ⟨(⟨#[113, 98]⟩ : ByteArray), (m : Int), 0⟩ := by
   intro k q hq
   rcases k with _ | _ | k
   ·exact .inl ⟨rfl, by simpa using hq.symm⟩
   ·exact .inr ⟨rfl, by simpa using hq.symm⟩
   ·simp at hq
  refine .pure ⟨i1, m, ⟨NetOk.g ⟨by dsimp only; omega, i5, by dsimp only; omega, fun k s hs => ?_, by simp, fun k q hq => ?_, fun i j q q' hij hq hq' => ?_, by simp, by simp, by simp, by dsimp only; omega, by dsimp only; omega⟩, by omega, i2, i3, rfl, ⟨_, rfl, rfl⟩, ⟨_, rfl, rfl⟩, rfl, fun i s hs => (i6 i s hs).2⟩⟩
  ·rw [i2]; exact (i6 k s hs).1
  ·rcases port k q hq with ⟨rfl, rfl⟩ | ⟨rfl, rfl⟩
   ·exact ⟨rfl, by dsimp only; omega, by dsimp only; omega⟩
   ·exact ⟨rfl, by dsimp only; omega, by dsimp only; omega⟩
  ·rcases port i q hq with ⟨rfl, rfl⟩ | ⟨rfl, rfl⟩ <;> rcases port j q' hq' with ⟨rfl, rfl⟩ | ⟨rfl, rfl⟩
   ·omega
   ·dsimp only; omega
   ·omega
   ·omega
structure Wpl (n : Network) (a : Int) (p : Plan) : Prop where
 rl : p.Rates.length = n.Segments.length
 rate : ∀ (i : Nat) (s : Segment) (x : Int), n.Segments[i]? = some s → p.Rates[i]? = some x → x = if s.From < s.To then a else -a
 ports : p.Ports = [a, -a]
 pumps : p.Pumps = []
section
variable {n : Network} {p : Plan} {m : Nat} {a : Int}
theorem Wpl.planOk (hc : Chain n m) (hp : Wpl n a p) (ha : -1000 ≤ a ∧ a ≤ 1000) (hcap : ∀ (i : Nat) (s : Segment), n.Segments[i]? = some s → -s.Capacity ≤ a ∧ a ≤ s.Capacity) : PlanOk n p := by
 have hns := hc.ns
 obtain ⟨x0, hx0, hn0⟩ := hc.p0
 obtain ⟨x1, hx1, hn1⟩ := hc.p1
 have hports : n.Ports = [x0, x1] := by
  have := hc.np
  match h : n.Ports with
  | [y0, y1] => rw [h] at hx0 hx1; simp at hx0 hx1; rw [hx0, hx1]
  | [] => rw [h] at this; simp at this
  | [_] => rw [h] at this; simp at this
  | _ :: _ :: _ :: _ => rw [h] at this; simp at this
 refine ⟨hp.rl, by rw [hp.ports, hc.np]; rfl, by rw [hp.pumps, hc.st]; rfl, fun k r s hr hs => ?_, fun k x hx => ?_, fun v => ?_, ?_⟩
 ·have h1 := hp.rate k s r hs hr
  have h2 := hcap k s hs
  split at h1 <;> omega
 ·rw [hp.ports] at hx
  rcases k with _ | _ | k
  ·simp at hx; omega
  ·simp at hx; omega
  ·simp at hx
 ·have tele : ∀ k, k ≤ m → (sumN k fun i => (wt n v).getD i 0 * p.Rates.getD i 0) = a * (ind (k : Int) v - ind 0 v) := by
   intro k
   induction k with
   | zero => intro _; simp [sumN]
   | succ k ih =>
    intro hk
    obtain ⟨s, hs⟩ := get_of (l := n.Segments) (k := k) (by omega)
    obtain ⟨x, hx⟩ := get_of (l := p.Rates) (k := k) (by have := hp.rl; omega)
    have h1 := hp.rate k s x hs hx
    have hw : (wt n v).getD k 0 = ind s.To v - ind s.From v := by
     rw [List.getD_eq_getElem?_getD, wt, List.getElem?_map, hs]; rfl
    have hx' : p.Rates.getD k 0 = x := by rw [List.getD_eq_getElem?_getD, hx]; rfl
    simp only [sumN]
    rw [ih (by omega), hw, hx']
    have e : ((k + 1 : Nat) : Int) = (k : Int) + 1 := by omega
    rw [e]
    rcases hc.ends k s hs with ⟨e1, e2⟩ | ⟨e1, e2⟩
    ·rw [if_pos (by omega)] at h1
     rw [e1, e2, h1, Int.mul_comm _ a, ← Int.mul_add]; congr 1; omega
    ·rw [if_neg (by omega)] at h1
     rw [e1, e2, h1, Int.mul_neg, Int.mul_comm _ a, ← Int.mul_neg, ← Int.mul_add]; congr 1; omega
  rw [dot_sumN _ _ (by simp [wt, hp.rl]), hp.rl, hns, tele m (Nat.le_refl _), hp.ports]
  have : wp n v = [ind 0 v, ind (m : Int) v] := by simp [wp, hports, hn0, hn1]
  rw [this]
  simp only [dot]
  rw [Int.mul_sub, Int.mul_neg, Int.mul_comm (ind 0 v), Int.mul_comm (ind (m : Int) v)]; omega
 ·rcases Int.lt_trichotomy a 0 with h | h | h
  ·refine .inr fun k r s hr hs => ?_
   have h1 := hp.rate k s r hs hr
   have := hc.ends k s hs
   split at h1 <;> omega
  ·refine .inl fun k r s hr hs => ?_
   have h1 := hp.rate k s r hs hr
   split at h1 <;> omega
  ·refine .inl fun k r s hr hs => ?_
   have h1 := hp.rate k s r hs hr
   have := hc.ends k s hs
   split at h1 <;> omega
theorem Wpl.ends (hc : Chain n m) (hp : Wpl n a p) {i : Nat} {s : Segment} {x : Int} (hs : n.Segments[i]? = some s) (hx : p.Rates[i]? = some x) (h0 : a ≠ 0) :
  x ≠ 0 ∧ max x (-x) = max a (-a) ∧ L.ztzg s x = if 0 < a then ((i : Int), (i : Int) + 1) else ((i : Int) + 1, (i : Int)) := by
 have h1 := hp.rate i s x hs hx
 have h2 := hc.ends i s hs
 have hx0 : x ≠ 0 := by split at h1 <;> omega
 refine ⟨hx0, by split at h1 <;> omega, ?_⟩
 rcases endsOf (s := s) hx0 with ⟨he, h3⟩ | ⟨he, h3⟩ <;> rw [he] <;> rcases h2 with ⟨e1, e2⟩ | ⟨e1, e2⟩ <;> rw [e1, e2]
 ·rw [if_pos (by omega)] at h1; rw [if_neg (by omega)]
 ·rw [if_neg (by omega)] at h1; rw [if_pos (by omega)]
 ·rw [if_pos (by omega)] at h1; rw [if_pos (by omega)]
 ·rw [if_neg (by omega)] at h1; rw [if_neg (by omega)]
theorem Wpl.cS (hc : Chain n m) (hp : Wpl n a p) (h0 : a ≠ 0) (v : Int) (b : Bool) (i : Nat) :
  Go.Proofs.Ytligpmmgdjipbaa.cS n p v b i = if i < m ∧ v = (if (0 < a) = (b = true) then (i : Int) + 1 else (i : Int)) then some (max a (-a)) else none := by
 by_cases hi : i < m
 ·obtain ⟨s, hs⟩ := get_of (l := n.Segments) (k := i) (by have := hc.ns; omega)
  obtain ⟨x, hx⟩ := get_of (l := p.Rates) (k := i) (by have := hp.rl; have := hc.ns; omega)
  obtain ⟨e1, e2, e3⟩ := hp.ends hc hs hx h0
  rw [cS_of hs hx, e2, e3]
  by_cases ha : 0 < a <;> cases b <;> simp [ha, e1, hi] <;> congr 1 <;> exact propext ⟨Eq.symm, Eq.symm⟩
 ·rw [if_neg (fun h => hi h.1)]
  cases h : Go.Proofs.Ytligpmmgdjipbaa.cS n p v b i with
  | none => rfl
  | some y => obtain ⟨s, r, hf, _⟩ := cS_some h; exact absurd hf.lt (by rw [hc.ns]; exact hi)
theorem Wpl.cP (hc : Chain n m) (hp : Wpl n a p) (h0 : a ≠ 0) (v : Int) (b : Bool) (k : Nat) :
  Go.Proofs.Ytligpmmgdjipbaa.cP n p v b k = if (k = 0 ∧ v = 0 ∧ decide (0 < a) = b) ∨ (k = 1 ∧ v = (m : Int) ∧ decide (a < 0) = b) then some (max a (-a)) else none := by
 obtain ⟨x0, hx0, hn0⟩ := hc.p0
 obtain ⟨x1, hx1, hn1⟩ := hc.p1
 rcases k with _ | _ | k
 ·rw [cP_of hx0 (r := a) (by rw [hp.ports]; rfl), hn0]
  have : (0 = v ∧ a ≠ 0 ∧ decide (a > 0) = b) ↔ ((0 : Nat) = 0 ∧ v = 0 ∧ decide (0 < a) = b) ∨ ((0 : Nat) = 1 ∧ v = (m : Int) ∧ decide (a < 0) = b) :=
   ⟨fun h => .inl ⟨rfl, h.1.symm, h.2.2⟩, fun h => by rcases h with h | h; exact ⟨h.2.1.symm, h0, h.2.2⟩; exact absurd h.1 (by omega)⟩
  simp only [this]
 ·rw [cP_of hx1 (r := -a) (by rw [hp.ports]; rfl), hn1, Int.neg_neg, show max (-a) a = max a (-a) by omega]
  have hd : decide (-a > 0) = decide (a < 0) := by simp
  have : ((m : Int) = v ∧ -a ≠ 0 ∧ decide (-a > 0) = b) ↔ (0 + 1 = 0 ∧ v = 0 ∧ decide (0 < a) = b) ∨ (0 + 1 = 1 ∧ v = (m : Int) ∧ decide (a < 0) = b) :=
   ⟨fun h => .inr ⟨rfl, h.1.symm, by rw [← hd]; exact h.2.2⟩, fun h => by rcases h with h | h; exact absurd h.1 (by omega); exact ⟨h.2.1.symm, by omega, by rw [hd]; exact h.2.2⟩⟩
  simp only [this]
 ·rw [if_neg (by omega)]
  cases h : Go.Proofs.Ytligpmmgdjipbaa.cP n p v b (k + 1 + 1) with
  | none => rfl
  | some y =>
   obtain ⟨x, r, hx, _⟩ := cP_some h
   have := (gs hx).1
   have := hc.np
   omega
theorem Wpl.way (hc : Chain n m) (hp : Wpl n a p) (h1 : 1 ≤ a) : Way n p m (fun j => (j : Int)) (fun j => j) a 0 1 := by
 have h0 : a ≠ 0 := by omega
 have hm : max a (-a) = a := by omega
 have hns := hc.ns
 have ha : 0 < a := by omega
 refine ⟨h1, by rw [hc.np]; omega, by rw [hc.np]; omega, fun j hj => by omega, fun j k hj => ?_, fun j k hj => ?_, fun j i hj => ?_, fun j i hj => ?_, fun i j _ _ h => by omega, fun i j _ _ h => h, fun v v0 v1 => ?_, fun j hj => ?_⟩
 ·rw [hp.cP hc h0, hm]
  have : ((k = 0 ∧ (j : Int) = 0 ∧ decide (0 < a) = true) ∨ (k = 1 ∧ (j : Int) = (m : Int) ∧ decide (a < 0) = true)) ↔ (j = 0 ∧ k = 0) := by
   simp only [decide_eq_true_eq]; omega
  exact ite_congr (propext this) (fun _ => rfl) (fun _ => rfl)
 ·rw [hp.cP hc h0, hm]
  have : ((k = 0 ∧ (j : Int) = 0 ∧ decide (0 < a) = false) ∨ (k = 1 ∧ (j : Int) = (m : Int) ∧ decide (a < 0) = false)) ↔ (j = m ∧ k = 1) := by
   simp only [decide_eq_false_iff_not]; omega
  exact ite_congr (propext this) (fun _ => rfl) (fun _ => rfl)
 ·rw [hp.cS hc h0, hm]
  have : (i < m ∧ (j : Int) = (if (0 < a) = (true = true) then (i : Int) + 1 else (i : Int))) ↔ (0 < j ∧ i = j - 1) := by
   rw [if_pos (by simp [ha])]; omega
  exact ite_congr (propext this) (fun _ => rfl) (fun _ => rfl)
 ·rw [hp.cS hc h0, hm]
  have : (i < m ∧ (j : Int) = (if (0 < a) = (false = true) then (i : Int) + 1 else (i : Int))) ↔ (j < m ∧ i = j) := by
   rw [if_neg (by simp [ha])]; omega
  exact ite_congr (propext this) (fun _ => rfl) (fun _ => rfl)
 ·rw [hc.nn] at v1
  exact ⟨v.toNat, by omega, by omega⟩
 ·obtain ⟨s, hs⟩ := get_of (l := n.Segments) (k := j) (by omega)
  obtain ⟨x, hx⟩ := get_of (l := p.Rates) (k := j) (by have := hp.rl; omega)
  obtain ⟨e1, _, e3⟩ := hp.ends hc hs hx h0
  rw [if_pos ha] at e3
  exact ⟨s, x, ⟨hs, hx, e1⟩, by rw [e3], by rw [e3]; simp⟩
theorem Wpl.back (hc : Chain n m) (hp : Wpl n (-a) p) (h1 : 1 ≤ a) : Way n p m (fun j => (m : Int) - j) (fun j => m - 1 - j) a 1 0 := by
 have h0 : -a ≠ 0 := by omega
 have hm : max (-a) (- -a) = a := by omega
 have hns := hc.ns
 have ha : ¬ 0 < -a := by omega
 refine ⟨h1, by rw [hc.np]; omega, by rw [hc.np]; omega, fun j hj => by omega, fun j k hj => ?_, fun j k hj => ?_, fun j i hj => ?_, fun j i hj => ?_, fun i j hi hj h => by omega, fun i j hi hj h => by omega, fun v v0 v1 => ?_, fun j hj => ?_⟩
 ·rw [hp.cP hc h0, hm]
  have : ((k = 0 ∧ (m : Int) - j = 0 ∧ decide (0 < -a) = true) ∨ (k = 1 ∧ (m : Int) - j = (m : Int) ∧ decide (-a < 0) = true)) ↔ (j = 0 ∧ k = 1) := by
   simp only [decide_eq_true_eq]; omega
  exact ite_congr (propext this) (fun _ => rfl) (fun _ => rfl)
 ·rw [hp.cP hc h0, hm]
  have : ((k = 0 ∧ (m : Int) - j = 0 ∧ decide (0 < -a) = false) ∨ (k = 1 ∧ (m : Int) - j = (m : Int) ∧ decide (-a < 0) = false)) ↔ (j = m ∧ k = 0) := by
   simp only [decide_eq_false_iff_not]; omega
  exact ite_congr (propext this) (fun _ => rfl) (fun _ => rfl)
 ·rw [hp.cS hc h0, hm]
  have : (i < m ∧ (m : Int) - j = (if (0 < -a) = (true = true) then (i : Int) + 1 else (i : Int))) ↔ (0 < j ∧ i = m - 1 - (j - 1)) := by
   rw [if_neg (by simp; omega)]; omega
  exact ite_congr (propext this) (fun _ => rfl) (fun _ => rfl)
 ·rw [hp.cS hc h0, hm]
  have : (i < m ∧ (m : Int) - j = (if (0 < -a) = (false = true) then (i : Int) + 1 else (i : Int))) ↔ (j < m ∧ i = m - 1 - j) := by
   rw [if_pos (by simp; omega)]; omega
  exact ite_congr (propext this) (fun _ => rfl) (fun _ => rfl)
 ·rw [hc.nn] at v1
  exact ⟨m - v.toNat, by omega, by omega⟩
 ·obtain ⟨s, hs⟩ := get_of (l := n.Segments) (k := m - 1 - j) (by omega)
  obtain ⟨x, hx⟩ := get_of (l := p.Rates) (k := m - 1 - j) (by have := hp.rl; omega)
  obtain ⟨e1, _, e3⟩ := hp.ends hc hs hx h0
  rw [if_neg ha] at e3
  exact ⟨s, x, ⟨hs, hx, e1⟩, by rw [e3]; dsimp only; omega, by rw [e3]; dsimp only; omega⟩
end
theorem psh_ge (l : List Piece) (x : Piece) : l.length ≤ (psh l x).length := by
 rcases snoc_cases l with rfl | ⟨a, q, rfl⟩
 ·simp
 ·rw [psh_snoc]; split <;> simp
theorem rle_pre (X Y : List Int) : (rle X).length ≤ (rle (X ++ Y)).length := by
 induction Y using snoc_ind with
 | h0 => simp
 | h1 a x ih => rw [← List.append_assoc, rle_snoc]; have := psh_ge (rle (X ++ a)) ⟨x, 1⟩; omega
theorem rle_revl (X : List Int) : (rle X.reverse).length = (rle X).length := by rw [← rle_rev, List.length_reverse]
theorem rle_suf (X Y : List Int) : (rle Y).length ≤ (rle (X ++ Y)).length := by
 rw [← rle_revl Y, ← rle_revl (X ++ Y), List.reverse_append]; exact rle_pre _ _
theorem rle_add (X Y : List Int) : (rle (X ++ Y)).length ≤ (rle X).length + (rle Y).length := by
 have := rle_lit_len (f := rle X ++ rle Y) fun p hp => by
  rcases List.mem_append.1 hp with hp | hp
  ·have := (rle_can X).pos p hp; omega
  ·have := (rle_can Y).pos p hp; omega
 rw [lit_app, lit_rle, lit_rle, List.length_append] at this; exact this
theorem rle_replicate (v : Nat) (b : Int) : (rle (List.replicate v b)).length ≤ 1 := by
 cases v with
 | zero => simp [rle_nil]
 | succ v =>
  have := rle_rep [] b (v + 1) (by omega)
  rw [List.nil_append, rle_nil, psh_nil] at this
  rw [this]; simp
theorem rle_cat {Q : Nat → List Int} {c : Nat} : ∀ {m : Nat}, (∀ j, j < m → (rle (Q j)).length ≤ c) → (rle (cat Q m)).length ≤ c * m
 | 0, _ => by simp [cat, rle_nil]
 | m + 1, h => by
  have h1 := rle_add (Q m) (cat Q m)
  have h2 := rle_cat (m := m) fun j hj => h j (by omega)
  have h3 := h m (by omega)
  simp only [cat]
  rw [Nat.mul_add]; omega
theorem cat_suf {Q : Nat → List Int} : ∀ {m j : Nat}, j ≤ m → ∃ Y, cat Q m = Y ++ cat Q j
 | 0, j, h => by
  obtain rfl : j = 0 := by omega
  exact ⟨[], rfl⟩
 | m + 1, j, h => by
  by_cases e : j = m + 1
  ·subst e; exact ⟨[], rfl⟩
  ·obtain ⟨Y, hY⟩ := cat_suf (Q := Q) (by omega : j ≤ m)
   exact ⟨Q m ++ Y, by simp only [cat]; rw [hY, List.append_assoc]⟩
theorem rle_qu (r : Int) (F : List Int) : (rle (qu r F)).length = (rle F).length := by
 unfold qu; split
 ·rfl
 ·exact rle_revl F
section
variable {n : Network} {p : Plan} {g od : List Int} {F0 : Nat → List Int} {m : Nat} {vs : Nat → Int} {sg : Nat → Nat} {r : Int} {ip op : Nat}
theorem way_over (hw : Way n p m vs sg r ip op) (ht : Topo n p od) (h : OverT n p g F0 od) : 200 < (rle (cat (que p sg F0) m ++ List.replicate r.toNat (g.getD ip 0))).length := by
 obtain ⟨l, v, F, G, O, ⟨l', rfl⟩, hs, ho⟩ := h
 have htl : Topo n p l := ⟨fun w hw => ht.rng w (by simp [hw]), (List.nodup_append.1 ht.nodup).1, fun k w hw i s r hf he => by
  have hk := (gs hw).1
  have := ht.topo k w (by rw [List.getElem?_append_left hk]; exact hw) i s r hf he
  rwa [List.take_append_of_le_length (by omega)] at this⟩
 have hv : v ∉ l := fun h => (List.nodup_append.1 ht.nodup).2.2 v h v (by simp) rfl
 obtain ⟨v0, v1⟩ := ht.rng v (by simp)
 obtain ⟨j, hj, rfl⟩ := hw.all v v0 v1
 have hi := way_stp hw hs htl
 have hp : 0 < j → vs (j - 1) ∈ l := fun h0 => by
  obtain ⟨k, rfl⟩ : ∃ k, j = k + 1 := ⟨j - 1, by omega⟩
  obtain ⟨s, a, hf, e1, e2⟩ := hw.flw k (by omega)
  have := ht.topo l.length (vs (k + 1)) (by simp) _ s a hf e2
  rw [e1, List.take_left] at this
  simpa using this
 have big : ∀ k, k ≤ m → ∀ X Y Z : List Int, X ++ Y ++ Z = cat (que p sg F0) k ++ List.replicate r.toNat (g.getD ip 0) → (rle Y).length ≤ (rle (cat (que p sg F0) m ++ List.replicate r.toNat (g.getD ip 0))).length := by
  intro k hk X Y Z he
  obtain ⟨W, hW⟩ := cat_suf (Q := que p sg F0) hk
  rw [hW, List.append_assoc, ← he]
  have h1 := rle_suf X Y
  have h2 := rle_pre (X ++ Y) Z
  have h3 := rle_suf W (X ++ Y ++ Z)
  omega
 have inb : ∀ k, k ≤ m → (rle (inc r (g.getD ip 0) (que p sg F0) k)).length ≤ (rle (cat (que p sg F0) m ++ List.replicate r.toNat (g.getD ip 0))).length := fun k hk =>
  big k hk [] _ (cat (lft r (g.getD ip 0) (que p sg F0)) k) (by rw [List.nil_append]; exact way_cat r _ _ k)
 rcases ho with ho | ⟨ZP, ZS, hsh, i, a, hil, hc, ho⟩
 ·rw [way_strm hw hi hj hp] at ho
  have := inb j hj
  omega
 ·have hc' := hc
  rw [hw.sout j i hj] at hc'
  have hji : j < m ∧ i = sg j := by
   by_cases e : j < m ∧ i = sg j
   ·exact e
   ·rw [if_neg e] at hc'; cases hc'
  obtain ⟨hjm, rfl⟩ := hji
  have hZ := (way_one hw hi hj hp hsh).1 _ rfl hjm
  have hF := hi.not j hjm hv
  have e0 : qu (p.Rates.getD (sg j) 0) (F0 (sg j)) = que p sg F0 j := rfl
  rw [hZ, hF] at ho
  unfold fl gv at ho
  rw [inc_len, e0] at ho
  rcases ho with ho | ho
  ·rw [rle_qu] at ho
   have := big (j + 1) (by omega) (inc r (g.getD ip 0) (que p sg F0) (j + 1)) (lft r (g.getD ip 0) (que p sg F0) j) (cat (lft r (g.getD ip 0) (que p sg F0)) j) (by
    rw [List.append_assoc]; exact way_cat r _ _ (j + 1))
   unfold lft at this
   omega
  ·have := inb (j + 1) (by omega)
   simp only [inc] at this
   omega
theorem way_go (hL : Ln n p g) (hw : Way n p m vs sg r ip op) {fs : List (List Piece)} (hf : Fil n fs F0) (hb : (rle (cat (que p sg F0) m ++ List.replicate r.toNat (g.getD ip 0))).length ≤ 200) :
  Ok (L.zcgl n fs p g) fun q => q.2.2 = 0 ∧ ∃ F O, Fil n q.1 F ∧ Rp n.Ports.length q.2.1 O ∧ (O op ++ cat (que p sg F) m = cat (que p sg F0) m ++ List.replicate r.toNat (g.getD ip 0) ∧ (O op).length = r.toNat) := by
 refine (Tick_ok hL hf).mono fun q hq => ?_
 rcases hq with ⟨_, od, ht, ho⟩ | ⟨hq, F, O, h1, h2, h3⟩
 ·have := way_over hw ht ho; omega
 ·exact ⟨hq, F, O, h2, h3, way_tick hL hw h1⟩
end
def up (R : Nat → List Int) (c : Nat) : Nat → List Int
 | 0 => []
 | m + 1 => R c ++ up R (c + 1) m
theorem up_snoc (R : Nat → List Int) : ∀ (m c : Nat), up R c (m + 1) = up R c m ++ R (c + m)
 | 0, c => by simp [up]
 | m + 1, c => by
  rw [up, up_snoc R m (c + 1), up, List.append_assoc]
  rw [show c + 1 + m = c + (m + 1) by omega]
theorem cat_up (R : Nat → List Int) : ∀ (m c : Nat), cat (fun j => R (c + (m - 1 - j))) m = up R c m
 | 0, _ => rfl
 | m + 1, c => by
  simp only [cat, up]
  rw [show c + (m + 1 - 1 - m) = c by omega, ← cat_up R m (c + 1)]
  congr 1
  exact cat_congr fun j hj => by rw [show c + (m + 1 - 1 - j) = c + 1 + (m - 1 - j) by omega]
theorem cat_rev (Q : Nat → List Int) : ∀ m, (cat Q m).reverse = up (fun j => (Q j).reverse) 0 m
 | 0 => rfl
 | m + 1 => by rw [up_snoc, ← cat_rev Q m]; simp only [cat]; rw [List.reverse_append, Nat.zero_add]
theorem cat_flip (Q : Nat → List Int) (m : Nat) : cat (fun j => (Q (m - 1 - j)).reverse) m = (cat Q m).reverse := by
 rw [cat_rev, ← cat_up]; simp
theorem cat_inj {Q R : Nat → List Int} : ∀ {m : Nat}, (∀ j, j < m → (Q j).length = (R j).length) → cat Q m = cat R m → ∀ j, j < m → Q j = R j
 | 0, _, _, j, hj => absurd hj (by omega)
 | m + 1, hl, h, j, hj => by
  simp only [cat] at h
  obtain ⟨h1, h2⟩ := List.append_inj h (hl m (by omega))
  by_cases e : j = m
  ·subst e; exact h1
  ·exact cat_inj (fun j hj => hl j (by omega)) h2 j (by omega)
theorem cat_mem {Q : Nat → List Int} {b : Int} : ∀ {m : Nat}, b ∈ cat Q m → ∃ j, j < m ∧ b ∈ Q j
 | 0, h => by simp [cat] at h
 | m + 1, h => by
  simp only [cat] at h
  rcases List.mem_append.1 h with h | h
  ·exact ⟨m, by omega, h⟩
  ·obtain ⟨j, hj, h⟩ := cat_mem h
   exact ⟨j, by omega, h⟩
theorem rle_one {v b : Int} (hv : 1 ≤ v) : rle (List.replicate v.toNat b) = [⟨b, v⟩] := by
 have := rle_rep [] b v.toNat (by omega)
 rw [List.nil_append, rle_nil, psh_nil, show ((v.toNat : Nat) : Int) = v by omega] at this
 exact this
theorem advanceUndoes (l : List Int) (w : Int) (hw : 0 ≤ w ∧ w ≤ 255) : L.zxbh l w = some true := by
 have : Ok (L.zxbh l w) fun r => r = true := by
  unfold L.zxbh
  refine .bind (new_ok l) fun d0 hd0 => .bind (chain_ok hd0) ?_
  rintro ⟨n, d1⟩ ⟨hd1, m, hc⟩
  dsimp only at hc hd1 ⊢
  have hn := hc.net
  have hns := hc.ns; have hm1 := hc.m1; have hnp := hc.np
  refine .bind (Q := fun c : Int => 1 ≤ c ∧ c ≤ 1000 ∧ ∀ (i : Nat) (s : Segment), n.Segments[i]? = some s → c ≤ s.Capacity)
   (.forS (fun k c => 1 ≤ c ∧ c ≤ 1000 ∧ ∀ (i : Nat) (s : Segment), i < k → n.Segments[i]? = some s → c ≤ s.Capacity) ⟨by omega, by omega, fun i s h => absurd h (by omega)⟩ ?_ ?_) ?_
  ·rintro k s c hs ⟨h1, h2, h3⟩
   have hcap := (hn.segs k s hs).cap
   unfold L.zxbh.B13
   refine .pure ⟨by omega, by omega, fun i s' hi hs' => ?_⟩
   by_cases e : i = k
   ·subst e; rw [hs] at hs'; cases hs'; omega
   ·have := h3 i s' (by omega) hs'; omega
  ·rintro c ⟨h1, h2, h3⟩
   exact ⟨h1, h2, fun i s hs => h3 i s (gs hs).1 hs⟩
  rintro c ⟨c1, c2, hle⟩
  unfold L.zxbh.J1
  rw [wr_id (by omega : _ ≤ w ∧ _)]
  refine .bind' (.rem (by omega) ?_)
  have hx : 0 ≤ w.tmod c ∧ w.tmod c < c := by
   rw [Int.tmod_eq_emod_of_nonneg hw.1]
   exact ⟨Int.emod_nonneg _ (by omega), Int.emod_lt_of_pos _ (by omega)⟩
  generalize w.tmod c = x at hx
  obtain ⟨a, ha⟩ : ∃ a, a = 1 + x := ⟨_, rfl⟩
  have ha1 : wr (1 + x) = a := by rw [wr_id (by omega), ha]
  have ha2 : wr (0 - a) = -a := by rw [wr_id (by omega)]; omega
  dsimp only
  refine .bind (Q := fun rs : List Int => rs.length = m ∧ ∀ (i : Nat) (s : Segment), n.Segments[i]? = some s → rs[i]? = some (if s.From < s.To then a else -a))
   (.forS (fun k rs => rs.length = k ∧ ∀ (i : Nat) (s : Segment), i < k → n.Segments[i]? = some s → rs[i]? = some (if s.From < s.To then a else -a)) ⟨rfl, fun i s h => absurd h (by omega)⟩ ?_ ?_) ?_
  ·rintro k s rs hs ⟨h1, h3⟩
   have hk := (gs hs).1
   have fin : ∀ x, x = (if s.From < s.To then a else -a) → (rs ++ [x]).length = k + 1 ∧ ∀ (i : Nat) (s : Segment), i < k + 1 → n.Segments[i]? = some s → (rs ++ [x])[i]? = some (if s.From < s.To then a else -a) := by
    rintro _ rfl
    refine ⟨by simp [h1], fun i s' hi hs' => ?_⟩
    by_cases e : i = k
    ·subst e
     rw [hs] at hs'; cases hs'
     rw [List.getElem?_append_right (by omega)]
     simp [h1]
    ·rw [List.getElem?_append_left (by omega)]
     exact h3 i s' (by omega) hs'
   unfold L.zxbh.B11
   rw [ha1, ha2]
   refine Ok.iteD (fun h => .bind' (.app (by simp; omega) (.pure (fin a (by rw [if_pos h]))))) fun h => .bind' (.app (by simp; omega) (.pure (fin (-a) (by rw [if_neg h]))))
  ·rintro rs ⟨h1, h3⟩
   rw [hns] at h1
   exact ⟨h1, fun i s hs => h3 i s (gs hs).1 hs⟩
  rintro rs ⟨r1, r3⟩
  unfold L.zxbh.J2
  dsimp only
  refine .bind (fills_ok hn hd1 (m := 3) (by omega)) ?_
  rintro ⟨fs, d2⟩ ⟨hd2, F0, hf, hF⟩
  dsimp only at hf ⊢
  rw [ha1, ha2]
  have hp : Wpl n a ⟨rs, [a, -a], []⟩ := ⟨by rw [hns]; exact r1, fun i s x hs hx => by rw [r3 i s hs] at hx; cases hx; rfl, rfl, rfl⟩
  have hL : Ln n ⟨rs, [a, -a], []⟩ [7, 0] := ⟨hn, (hp.planOk hc (by omega) fun i s hs => by have := hle i s hs; omega).flow, by rw [hnp]; rfl, by simp⟩
  have hway := hp.way hc (by omega : 1 ≤ a)
  obtain ⟨Q, hQ⟩ : ∃ Q : (Nat → List Int) → Nat → List Int, Q = que ⟨rs, [a, -a], []⟩ (fun j => j) := ⟨_, rfl⟩
  have hQF : ∀ F i, Q F i = qu (rs.getD i 0) (F i) := fun F i => by rw [hQ]; rfl
  obtain ⟨T0, hT0⟩ : ∃ T0, T0 = cat (Q F0) m := ⟨_, rfl⟩
  have bT : (rle (T0 ++ List.replicate a.toNat 7)).length ≤ 200 := by
   have h1 := rle_add T0 (List.replicate a.toNat 7)
   have h2 := rle_replicate a.toNat 7
   have h3 : (rle T0).length ≤ 12 * m := by
    rw [hT0]
    exact rle_cat fun j hj => by rw [hQF, rle_qu]; exact (hF j (by omega)).2
   omega
  obtain ⟨⟨f1, o1, e1⟩, ht1, he1, F1, O1, hf1, ho1, hc1, hl1⟩ := way_go hL hway hf (by rw [← hQ, ← hT0]; exact bT)
  dsimp only at he1 hf1 ho1
  subst he1
  rw [← hQ, ← hT0] at hc1
  have hc1' : O1 1 ++ cat (Q F1) m = T0 ++ List.replicate a.toNat 7 := hc1
  have g1 : o1[1]? = some (rle (O1 1)) := ho1.get 1 (by omega)
  refine .bind' (.eq ht1 ?_)
  rw [if_neg (by simp), if_neg (by simp [ho1.len, hnp])]
  refine .bind' (.eq (ix_nat g1) ?_)
  have nnr : ∀ X : List Int, ∀ p, p ∈ rle X → 0 ≤ p.Volume := fun X p hp => by have := (rle_can X).pos p hp; omega
  refine .bind' (.eq (sum14_eq (f := rle (O1 1)) (nnr _) (by rw [vol_rle, hl1]; omega)) ?_)
  rw [vol_rle, hl1, show ((a.toNat : Nat) : Int) = a by omega]
  unfold L.zxbh.J3
  rw [if_neg (by simp)]
  refine .bind' (.eq (ix_nat g1) ?_)
  dsimp only
  obtain ⟨ps, hps⟩ : ∃ ps, ps = rle (O1 1) := ⟨_, rfl⟩
  rw [← hps]
  have hlit : lit ps = O1 1 := by rw [hps, lit_rle]
  have hplen : ps.length ≤ 1000 := by have := rle_len (O1 1); rw [hps]; omega
  have hpn : ∀ p, p ∈ ps → 1 ≤ p.Volume := by rw [hps]; exact (rle_can _).pos
  have hpb : ∀ p, p ∈ ps → 0 ≤ p.Batch ∧ p.Batch < 1000 := fun p hp' => by
   have h1 : p.Batch ∈ O1 1 := by rw [hps] at hp'; exact rle_batch hp'
   have h2 : p.Batch ∈ T0 ++ List.replicate a.toNat 7 := by rw [← hc1']; simp [h1]
   rcases List.mem_append.1 h2 with h2 | h2
   ·rw [hT0] at h2
    obtain ⟨j, hj, h2⟩ := cat_mem h2
    rw [hQF] at h2
    have := (hF j (by omega)).1 _ (qu_mem.1 h2)
    omega
   ·obtain ⟨_, h2⟩ := List.mem_replicate.1 h2; omega
  have hpv : ∀ p, p ∈ ps → p.Volume ≤ a := fun p hp' => by
   have h1 := vol_mem (fun q hq => by have := hpn q hq; omega) hp'
   rw [hps, vol_rle, hl1] at h1; omega
  have htot : (cat (Q F1) m).reverse ++ (lit ps).reverse = (T0 ++ List.replicate a.toNat 7).reverse := by rw [hlit, ← List.reverse_append, hc1']
  let Inv2 : Nat → List (List Piece) → List Piece → Prop := fun kk now back => ∃ F, Fil n now F ∧ lit back ++ (cat (Q F) m).reverse = (cat (Q F1) m).reverse ++ (lit (ps.drop kk)).reverse ∧ (lit back).length = (lit (ps.drop kk)).length ∧ ∀ p, p ∈ back → 1 ≤ p.Volume
  refine .bind (Q := Sum.elim (fun _ : Bool => False) fun d : List (List Piece) × List Piece => Inv2 0 d.1 d.2)
   (.loop (fun st => ∃ kk : Nat, kk ≤ ps.length ∧ st.2.2 = (kk : Int) - 1 ∧ Inv2 kk st.1 st.2.1) (fun st => (st.2.2 + 1).toNat)
    ⟨ps.length, by omega, by dsimp only; rw [wr_id (by omega)], F1, hf1, by simp [lit_nil], by simp [lit_nil], by simp⟩ (by dsimp only; rw [wr_id (by omega)]; omega) ?_) ?_
  ·rintro ⟨now, back, _⟩ ⟨kk, hkk, rfl, F, hfk, i1, i2, i3⟩
   dsimp only at hfk i1 i2 i3
   unfold L.zxbh.B6
   refine Ok.iteD (fun h => ?_) fun h => .pure ?_
   ·dsimp only at h ⊢
    obtain ⟨k, rfl⟩ : ∃ k, kk = k + 1 := ⟨kk - 1, by omega⟩
    rw [show ((k + 1 : Nat) : Int) - 1 = (k : Int) by omega]
    obtain ⟨y, hy⟩ := get_of (l := ps) (k := k) (by omega)
    have hym := mg hy
    have v1 := hpn y hym; have v2 := hpv y hym; have v3 := hpb y hym
    refine .bind' (.eq (ix_nat hy) ?_)
    have hv : wr (0 - y.Volume) = -y.Volume := by rw [wr_id (by omega)]; omega
    refine .bind (Q := fun rs' : List Int => rs'.length = m ∧ ∀ (i : Nat) (s : Segment), n.Segments[i]? = some s → rs'[i]? = some (if s.From < s.To then -y.Volume else y.Volume))
     (.forS (fun j rs' => rs'.length = j ∧ ∀ (i : Nat) (s : Segment), i < j → n.Segments[i]? = some s → rs'[i]? = some (if s.From < s.To then -y.Volume else y.Volume)) ⟨rfl, fun i s h => absurd h (by omega)⟩ ?_ ?_) ?_
    ·rintro j z rs' hz ⟨h1, h3⟩
     have hj := (gs hz).1
     obtain ⟨s, hs⟩ := get_of (l := n.Segments) (k := j) (by omega)
     have hz' := r3 j s hs
     rw [hz] at hz'
     have hz2 := Option.some.inj hz'
     have fin : ∀ x, x = (if s.From < s.To then -y.Volume else y.Volume) → (rs' ++ [x]).length = j + 1 ∧ ∀ (i : Nat) (s : Segment), i < j + 1 → n.Segments[i]? = some s → (rs' ++ [x])[i]? = some (if s.From < s.To then -y.Volume else y.Volume) := by
      rintro _ rfl
      refine ⟨by simp [h1], fun i s' hi hs' => ?_⟩
      by_cases e : i = j
      ·subst e
       rw [hs] at hs'; cases hs'
       rw [List.getElem?_append_right (by omega)]
       simp [h1]
      ·rw [List.getElem?_append_left (by omega)]
       exact h3 i s' (by omega) hs'
     unfold L.zxbh.B9
     dsimp only
     rw [hv]
     refine .bind' (.app (by simp; omega) (Ok.iteD (fun hneg => ?_) fun hneg => .pure (fin _ ?_)))
     ·have hft : ¬ s.From < s.To := fun h => by rw [if_pos h] at hz2; omega
      refine .bind' (.eq (ix_nat (x := -y.Volume) ?_) ?_)
      ·rw [List.getElem?_append_right (by omega)]; simp [h1]
      ·dsimp only
       have e : (rs' ++ [-y.Volume]).set j y.Volume = rs' ++ [y.Volume] := by rw [← h1]; simp
       rw [e]
       exact .pure (fin _ (by rw [if_neg hft]))
     ·have hft : s.From < s.To := by
       by_cases e : s.From < s.To
       ·exact e
       ·rw [if_neg e] at hz2; omega
      rw [if_pos hft]
    ·rintro rs' ⟨h1, h3⟩
     rw [r1] at h1
     exact ⟨h1, fun i s hs => h3 i s (by rw [r1, ← hns]; exact (gs hs).1) hs⟩
    rintro rs' ⟨q1, q3⟩
    have hpB : Wpl n (-y.Volume) ⟨rs', [-y.Volume, y.Volume], []⟩ := ⟨by rw [hns]; exact q1, fun i s x hs hx => by rw [q3 i s hs] at hx; cases hx; rw [Int.neg_neg], by rw [Int.neg_neg], rfl⟩
    have hLB : Ln n ⟨rs', [-y.Volume, y.Volume], []⟩ [0, y.Batch] := ⟨hn, (hpB.planOk hc (by omega) fun i s hs => by have := hle i s hs; omega).flow, by rw [hnp]; rfl, by simp; omega⟩
    have hwB := hpB.back hc v1
    have hqB : ∀ F, cat (que ⟨rs', [-y.Volume, y.Volume], []⟩ (fun j => m - 1 - j) F) m = (cat (Q F) m).reverse := fun F => by
     rw [← cat_flip]
     refine cat_congr fun j hj => ?_
     obtain ⟨s, hs⟩ := get_of (l := n.Segments) (k := m - 1 - j) (by omega)
     rw [hQF]
     unfold que qu
     dsimp only
     have e1 : rs'.getD (m - 1 - j) 0 = if s.From < s.To then -y.Volume else y.Volume := by rw [List.getD_eq_getElem?_getD, q3 _ s hs]; rfl
     have e2 : rs.getD (m - 1 - j) 0 = if s.From < s.To then a else -a := by rw [List.getD_eq_getElem?_getD, r3 _ s hs]; rfl
     rw [e1, e2]
     by_cases e : s.From < s.To
     ·rw [if_pos e, if_pos e, if_pos (by omega), if_neg (by omega), List.reverse_reverse]
     ·rw [if_neg e, if_neg e, if_neg (by omega), if_pos (by omega)]
    have hdr : lit (ps.drop k) = List.replicate y.Volume.toNat y.Batch ++ lit (ps.drop (k + 1)) := by
     have hk := (gs hy).1
     rw [List.drop_eq_getElem_cons hk, (gs hy).2, lit_cons]
    have hnew : lit back ++ ((cat (Q F) m).reverse ++ List.replicate y.Volume.toNat y.Batch) = (cat (Q F1) m).reverse ++ (lit (ps.drop k)).reverse := by
     rw [← List.append_assoc, i1, hdr, List.reverse_append, List.reverse_replicate, List.append_assoc]
    have hbound : (rle ((cat (Q F) m).reverse ++ List.replicate y.Volume.toNat y.Batch)).length ≤ 200 := by
     have h1 := rle_suf (lit back) ((cat (Q F) m).reverse ++ List.replicate y.Volume.toNat y.Batch)
     rw [hnew] at h1
     have h2 := rle_pre ((cat (Q F1) m).reverse ++ (lit (ps.drop k)).reverse) (lit (ps.take k)).reverse
     have h3 : (cat (Q F1) m).reverse ++ (lit (ps.drop k)).reverse ++ (lit (ps.take k)).reverse = (T0 ++ List.replicate a.toNat 7).reverse := by
      rw [← htot, List.append_assoc]
      congr 1
      rw [← List.reverse_append, ← lit_app, List.take_append_drop]
     rw [h3, rle_revl] at h2
     omega
    obtain ⟨⟨f2, o2, e2⟩, ht2, he2, F2, O2, hf2, ho2, hc2, hl2⟩ := way_go hLB hwB hfk (by rw [hqB]; exact hbound)
    dsimp only at he2 hf2 ho2
    subst he2
    rw [hqB, hqB] at hc2
    have hc2' : O2 0 ++ (cat (Q F2) m).reverse = (cat (Q F) m).reverse ++ List.replicate y.Volume.toNat y.Batch := hc2
    unfold L.zxbh.J8
    dsimp only
    rw [hv]
    refine .bind' (.eq ht2 ?_)
    rw [if_neg (by simp [ho2.len, hnp])]
    have hbl := len_vol i3
    rw [← lit_len (fun p hp' => by have := i3 p hp'; omega), i2] at hbl
    have hdl : (lit (ps.drop (k + 1))).length ≤ a.toNat := by
     have e1 : lit ps = lit (ps.take (k + 1)) ++ lit (ps.drop (k + 1)) := by rw [← lit_app, List.take_append_drop]
     have e2 := congrArg List.length e1
     rw [hlit, hl1, List.length_append] at e2; omega
    have hol := rle_len (O2 0)
    refine .bind' (.eq (ix_nat (ho2.get 0 (by omega))) (.bind' (.app ?_ ?_)))
    ·dsimp only; omega
    unfold L.zxbh.J7
    refine .pure ⟨⟨k, by omega, ?_, F2, hf2, ?_, ?_, ?_⟩, ?_⟩
    ·dsimp only; rw [wr_id (by omega)]
    ·dsimp only; rw [lit_app, lit_rle, List.append_assoc, hc2', hnew]
    ·dsimp only; rw [lit_app, lit_rle, List.length_append, hdr, List.length_append, hl2, i2, List.length_replicate]; omega
    ·intro p hp'
     rcases List.mem_append.1 hp' with h | h
     ·exact i3 p h
     ·exact (rle_can _).pos p h
    ·dsimp only; rw [wr_id (by omega)]; omega
   ·dsimp only at h
    obtain rfl : kk = 0 := by omega
    exact ⟨F, hfk, i1, i2, i3⟩
  ·rintro (b | ⟨now, back⟩) hd
   ·exact hd.elim
   ·obtain ⟨F, hfk, i1, i2, i3⟩ := hd
    dsimp only at hfk i1 i2 i3
    rw [List.drop_zero] at i1 i2
    rw [htot, List.reverse_append, List.reverse_replicate] at i1
    rw [hlit, hl1] at i2
    obtain ⟨j1, j2⟩ := List.append_inj i1 (by rw [i2]; simp)
    have j3 : cat (Q F) m = cat (Q F0) m := by
     have := congrArg List.reverse j2
     rwa [List.reverse_reverse, List.reverse_reverse, hT0] at this
    have hcap : ∀ j, j < m → (F j).length = (F0 j).length := fun j hj => by
     obtain ⟨s, hs⟩ := get_of (l := n.Segments) (k := j) (by omega)
     have h1 := hfk.cap j s hs; have h2 := hf.cap j s hs; omega
    have j4 : ∀ j, j < m → F j = F0 j := fun j hj => by
     have := cat_inj (Q := Q F) (R := Q F0) (m := m) (fun j hj => by rw [hQF, hQF, qu_len, qu_len]; exact hcap j hj) j3 j hj
     rw [hQF, hQF] at this
     rw [← qu_qu (rs.getD j 0) (F j), this, qu_qu]
    obtain rfl : now = fs := (hfk.rp.congr (G := F0) fun i hi => (j4 i (by omega)).symm).det hf.rp
    show Ok (L.zxbh.J4 x (now, d2) (now, back)) _
    unfold L.zxbh.J4
    dsimp only
    rw [same17_refl, Option.bind_some, if_pos rfl]
    have hvb := lit_len (f := back) fun p hp' => by have := i3 p hp'; omega
    rw [i2] at hvb
    refine .bind' (.eq (joined_rle (f := back) (fun p hp' => by have := i3 p hp'; omega) (by omega)) ?_)
    rw [j1, rle_one (by omega), ha1, same14_refl, Option.bind_some, if_pos rfl, awake18]
    exact .pure rfl
 obtain ⟨r, h1, rfl⟩ := this
 exact h1
end Go.Proofs.Ytligpmmgdjipbaa
namespace Go.Aw
set_option linter.unusedVariables false
set_option linter.unusedSimpArgs false
open Go.ChangeShapes Go.WideShapes Go.ChangeAt Go.RowKit
section
variable {H : Type} {enc : TypeId × Value → H} {P : Program}
theorem trodAll_below (hl : laidOutB P = true) {W W' : World} (hb : Below W.heap.size W W') : ∀ {ts : List TypeId} {vs : List Value} {ds : List (DataW H)} {ps : List MemPlace},
  (∀ t, t ∈ ts → P.readableRec t = true ∧ t < P.types.size) → (∀ x, x ∈ ps → x.block < W.heap.size) → DataW.TrodAll enc P W 0 (fun _ => true) true ts vs ds ps →
  DataW.TrodAll enc P W' 0 (fun b => decide (b < W.heap.size)) true ts vs ds ps
 | [], vs, ds, ps, _, _, h => by
  cases vs <;> cases ds <;> simp [DataW.TrodAll] at h ⊢
  exact h
 | t :: ts, vs, ds, ps, ht, hlt, h => by
  obtain ⟨v, vs', d, ds', p, q, rfl, rfl, rfl, h1, h2⟩ := trodAll_cons h
  have hr := ht t (by simp)
  exact ⟨p, q, Below.trod hl hr.1 hr.2 h1 hb (fun x hx => hlt x (by simp [hx])), trodAll_below hl hb (fun t ht' => ht t (by simp [ht'])) (fun x hx => hlt x (by simp [hx])) h2, rfl⟩
theorem law_post {f : Func} {s : ChangeSpec} {W W' : World} {args : Array Value} {ds : List (DataW H)} {p : List MemPlace} {t : TypeId} (hW : DataW.Whole enc P f.params.toList s.vars false W args.toList ds [] (p ++ []))
  (hA : DataW.TrodAll enc P W 0 (fun _ => true) true f.params.toList args.toList ds p)
  (hres : (s.fn H (ds ++ [])).results = [.lit (.bool true)]) (hargs : (s.fn H (ds ++ [])).args = ds) (hv : (s.fn H (ds ++ [])).vars = []) (hsv : s.vars = [])
  (hrt : f.resultTypes.toList = [t]) (hu : P.underlying t = some .bool) (hl : laidOutB P = true) (hall : ∀ t, t ∈ f.params.toList → P.readableRec t = true ∧ t < P.types.size)
  (hb : Below W.heap.size W W') : s.post enc P f false true false false W args (.bool true) W' := by
 have hlt : ∀ x, x ∈ p → x.block < W.heap.size := fun x hx => hW.lt x (by simp [hx])
 have hsz : f.resultTypes.size = 1 := by rw [← Array.length_toList, hrt]; rfl
 refine ⟨ds, [], p ++ [], [], p, [], hW, ?_, ?_, ?_, hb.frame _, fun h => by cases h⟩
 ·rw [hres, hrt, hsz]
  exact trodAll_mk1 (shut_bool hu true)
 ·rw [hargs]
  exact trodAll_below hl hb hall hlt hA
 ·rw [hv, hsv]; rfl
def encK (k : IntKind) (l : List Int) : T := .list 1 (l.map fun n => [.v (.int k n)])
theorem open_list {t e : TypeId} {k : IntKind} {W : World} {base : Nat} {r : Reach} {v : Value} {d : DataW H} {ps : List MemPlace} (ht : P.underlying t = some (.slice e)) (he : P.underlying e = some (.int k)) (hc : P.cellsOf e = 1)
  (hval : Value.okWide P W r base t v) (h : DataW.Trod enc P W 0 (fun _ => true) true t v d ps) :
  ∃ l : List Int, (l.length ≤ maxL → VR (fun b => W.heap[b]?) v (encK k l)) ∧ (∀ n, n ∈ l → (Lit.int k n).wf = true) ∧ (l = [] ∨ ∃ elems spare, d = .slice elems spare ∧ l.length = elems.length) := by
 obtain ⟨a0, len, cap, rfl⟩ := okWide_slice ht hval
 obtain ⟨fuel, hf⟩ := h
 rcases open_ints ht he hc hf with ⟨hcs, hx⟩ | ⟨a, len', cap', zs, hcs, _, hl, hm, hz, hx, hcell, hwz⟩
 ·simp [Value.cells] at hcs
  obtain ⟨rfl, rfl, rfl⟩ := hcs
  exact ⟨[], fun _ => .empty _ _ _, by simp, .inl rfl⟩
 ·simp [Value.cells] at hcs
  obtain ⟨rfl, rfl, rfl⟩ := hcs
  simp only [Prod.mk.injEq] at hx
  obtain ⟨rfl, rfl⟩ := hx
  simp only [if_true] at hz
  have hlt : (zs.take len).length = len := by simp; omega
  refine ⟨zs.take len, fun hmax => ?_, fun n hn => hwz n (List.mem_of_mem_take hn), .inr ⟨_, _, rfl, by simp [lits]⟩⟩
  by_cases hl0 : len = 0
  ·subst hl0; simp only [List.take_zero, encK, List.map_nil]; exact .empty _ _ _
  ·obtain ⟨b, off, spot⟩ := a
   have hspot : spot = none := by simpa [Addr.add] using World.cell?_spot (hcell 0 (by omega))
   subst hspot
   have hcell' : ∀ i, i < zs.length → W.cell? ⟨b, off + i, none⟩ = some (.int k (zs.getD i 0)) := fun i hi => by rw [← Addr.add_mk]; exact hcell i hi
   have hc0 := hcell' 0 (by omega)
   have hcs : ∃ cs ty fr, W.heap[b]? = some (.cells cs ty fr) := by
    unfold World.cell? at hc0
    split at hc0
    ·rename_i c ty fr hh; exact ⟨_, _, _, hh⟩
    ·cases hc0
   obtain ⟨cs, ty, fr, hh⟩ := hcs
   have hcs' : ∀ i, i < zs.length → cs[off + i]? = some (.int k (zs.getD i 0)) := fun i hi => by
    have := hcell' i hi
    simpa [World.cell?, hh] using this
   have hlen : ((zs.take len).map fun n => [T.v (.int k n)]).length = len := by rw [List.length_map, hlt]
   have hbig : off + len ≤ cs.size := by
    have := (Array.getElem?_eq_some_iff.1 (hcs' (len - 1) (by omega))).1
    omega
   have hgd : ∀ i e, ((zs.take len).map fun n => [T.v (.int k n)])[i]? = some e → ∀ (j : Nat) (x : T), e[j]? = some x → j = 0 ∧ x = .v (.int k (zs.getD i 0)) ∧ cs.getD (off + i * 1 + j) undef = .int k (zs.getD i 0) := by
    intro i e he j x hx
    simp only [List.getElem?_map, Option.map_eq_some_iff] at he
    obtain ⟨n, hn, rfl⟩ := he
    have hil := (List.getElem?_eq_some_iff.1 hn).1
    rw [hlt] at hil
    rw [List.getElem?_take_of_lt hil] at hn
    have hj : j = 0 := by have := (List.getElem?_eq_some_iff.1 hx).1; simp at this; exact this
    subst hj
    simp at hx
    have hzi : zs.getD i 0 = n := by simp [List.getD, hn]
    refine ⟨rfl, by rw [hzi]; exact hx.symm, ?_⟩
    rw [Array.getD_eq_getD_getElem?, show off + i * 1 + 0 = off + i by omega, hcs' i (by omega)]; rfl
   have := VR.list (H := fun b => W.heap[b]?) b off cap 1 ((zs.take len).map fun n => [T.v (.int k n)]) cs ty fr hh (by rw [hlen]; exact hl) (by rw [List.length_map]; exact hmax) (by rw [hlen]; omega)
    (fun i e he => by simp only [List.getElem?_map, Option.map_eq_some_iff] at he; obtain ⟨n, _, rfl⟩ := he; rfl)
    (fun i e he j x hx => by rw [(hgd i e he j x hx).2.2]; rfl) (fun i e he j x hx => by rw [(hgd i e he j x hx).2.2, (hgd i e he j x hx).2.1]; exact .v _)
   rw [hlen] at this
   exact this
end
theorem wf_u8 {n : Int} (h : (Lit.int .u8 n).wf = true) : 0 ≤ n ∧ n ≤ 255 := by
 have h1 : IntKind.u8.min = 0 := rfl
 have h2 : IntKind.u8.max = 255 := rfl
 simp only [Lit.wf, Bool.and_eq_true, decide_eq_true_eq] at h
 omega
theorem law_calls {E : Env} {f : FuncId} {xs : List T} {W : World} {args : Array Value} (hgl : Held fun b => W.heap[b]?) (hc : ACalls E f xs [] fun x _ => x = .v (.bool true)) (hsz : args.size = xs.length)
  (hv : ∀ (i : Nat) (x : T), xs[i]? = some x → VR (fun b => W.heap[b]?) (args.getD i undef) x) : Calls E.P f args W fun e W' => e = .returned (.bool true) ∧ Below W.heap.size W W' := by
 refine (hc.2 (fun b => W.heap[b]?) W args hsz hv ⟨fun _ _ h => h, hgl⟩ (by simp) (by simp)).mono ?_
 rintro e w' ⟨v, x, fp', H', rfl, rfl, hvr, _, _, _, _, hs, ⟨e1, e2, e3⟩, hfr⟩
 refine ⟨by rw [hvr.v_eq], ⟨e1, e2, e3, hs, fun k hk => (hfr k hk (by simp)).1⟩⟩
end Go.Aw
