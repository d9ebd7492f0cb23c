/- Plain proofs. No condition. -/
import Derived.Test.YtaliejncdnegeaaGreatZvP1
import Derived.Test.YtaliejncdnegeaaGreatZvD
import Derived.KernelRfl
import Derived.Test.YtaliejncdnegeaaGreatZvB1
import Derived.ProofKit
import Derived.SizedLaws
import Derived.Carry
set_option maxRecDepth 100000
namespace Go.Proofs.YtaliejncdnegeaaGreat
set_option linter.unusedVariables false
set_option linter.unusedSimpArgs false
open Go.Aw
structure Chain (n : Network) (m : Nat) : Prop where
 net : NetG n
 m1 : 1 ≤ m ∧ m ≤ 5
 nn : n.Nodes.length = m + 1
 ns : n.Segments.length = m
 np : n.Ports.length = 2
 p0 : ∃ x, n.Ports[0]? = some x ∧ x.Node = 0
 p1 : ∃ x, n.Ports[1]? = some x ∧ x.Node = (m : Int)
 st : n.Stations = []
 ends : ∀ (i : Nat) (s : Segment), n.Segments[i]? = some s → s.From = (i : Int) ∧ s.To = (i : Int) + 1 ∨ s.From = (i : Int) + 1 ∧ s.To = (i : Int)
structure Wpl (n : Network) (a : Int) (p : Plan) : Prop where
 rl : p.Rates.length = n.Segments.length
 rate : ∀ (i : Nat) (s : Segment) (x : Int), n.Segments[i]? = some s → p.Rates[i]? = some x → x = if s.From < s.To then a else -a
 ports : p.Ports = [a, -a]
 pumps : p.Pumps = []
section
variable {n : Network} {p : Plan} {m : Nat} {a : Int}
theorem Wpl.planOk (hc : Chain n m) (hp : Wpl n a p) (ha : -1000 ≤ a ∧ a ≤ 1000) (hcap : ∀ (i : Nat) (s : Segment), n.Segments[i]? = some s → -s.Capacity ≤ a ∧ a ≤ s.Capacity) : PlanOk n p := by
 have hns := hc.ns
 obtain ⟨x0, hx0, hn0⟩ := hc.p0
 obtain ⟨x1, hx1, hn1⟩ := hc.p1
 have hports : n.Ports = [x0, x1] := by
  have := hc.np
  match h : n.Ports with
  | [y0, y1] => rw [h] at hx0 hx1; simp at hx0 hx1; rw [hx0, hx1]
  | [] => rw [h] at this; simp at this
  | [_] => rw [h] at this; simp at this
  | _ :: _ :: _ :: _ => rw [h] at this; simp at this
 refine ⟨hp.rl, by rw [hp.ports, hc.np]; rfl, by rw [hp.pumps, hc.st]; rfl, fun k r s hr hs => ?_, fun k x hx => ?_, fun v => ?_, ?_⟩
 ·have h1 := hp.rate k s r hs hr
  have h2 := hcap k s hs
  split at h1 <;> omega
 ·rw [hp.ports] at hx
  rcases k with _ | _ | k
  ·simp at hx; omega
  ·simp at hx; omega
  ·simp at hx
 ·have tele : ∀ k, k ≤ m → (sumN k fun i => (wt n v).getD i 0 * p.Rates.getD i 0) = a * (ind (k : Int) v - ind 0 v) := by
   intro k
   induction k with
   | zero => intro _; simp [sumN]
   | succ k ih =>
    intro hk
    obtain ⟨s, hs⟩ := get_of (l := n.Segments) (k := k) (by omega)
    obtain ⟨x, hx⟩ := get_of (l := p.Rates) (k := k) (by have := hp.rl; omega)
    have h1 := hp.rate k s x hs hx
    have hw : (wt n v).getD k 0 = ind s.To v - ind s.From v := by
     rw [List.getD_eq_getElem?_getD, wt, List.getElem?_map, hs]; rfl
    have hx' : p.Rates.getD k 0 = x := by rw [List.getD_eq_getElem?_getD, hx]; rfl
    simp only [sumN]
    rw [ih (by omega), hw, hx']
    have e : ((k + 1 : Nat) : Int) = (k : Int) + 1 := by omega
    rw [e]
    rcases hc.ends k s hs with ⟨e1, e2⟩ | ⟨e1, e2⟩
    ·rw [if_pos (by omega)] at h1
     rw [e1, e2, h1, Int.mul_comm _ a, ← Int.mul_add]; congr 1; omega
    ·rw [if_neg (by omega)] at h1
     rw [e1, e2, h1, Int.mul_neg, Int.mul_comm _ a, ← Int.mul_neg, ← Int.mul_add]; congr 1; omega
  rw [dot_sumN _ _ (by simp [wt, hp.rl]), hp.rl, hns, tele m (Nat.le_refl _), hp.ports]
  have : wp n v = [ind 0 v, ind (m : Int) v] := by simp [wp, hports, hn0, hn1]
  rw [this]
  simp only [dot]
  rw [Int.mul_sub, Int.mul_neg, Int.mul_comm (ind 0 v), Int.mul_comm (ind (m : Int) v)]; omega
 ·rcases Int.lt_trichotomy a 0 with h | h | h
  ·refine .inr fun k r s hr hs => ?_
   have h1 := hp.rate k s r hs hr
   have := hc.ends k s hs
   split at h1 <;> omega
  ·refine .inl fun k r s hr hs => ?_
   have h1 := hp.rate k s r hs hr
   split at h1 <;> omega
  ·refine .inl fun k r s hr hs => ?_
   have h1 := hp.rate k s r hs hr
   have := hc.ends k s hs
   split at h1 <;> omega
theorem Wpl.ends (hc : Chain n m) (hp : Wpl n a p) {i : Nat} {s : Segment} {x : Int} (hs : n.Segments[i]? = some s) (hx : p.Rates[i]? = some x) (h0 : a ≠ 0) :
  x ≠ 0 ∧ max x (-x) = max a (-a) ∧ L.ztzg s x = if 0 < a then ((i : Int), (i : Int) + 1) else ((i : Int) + 1, (i : Int)) := by
 have h1 := hp.rate i s x hs hx
 have h2 := hc.ends i s hs
 have hx0 : x ≠ 0 := by split at h1 <;> omega
 refine ⟨hx0, by split at h1 <;> omega, ?_⟩
 rcases endsOf (s := s) hx0 with ⟨he, h3⟩ | ⟨he, h3⟩ <;> rw [he] <;> rcases h2 with ⟨e1, e2⟩ | ⟨e1, e2⟩ <;> rw [e1, e2]
 ·rw [if_pos (by omega)] at h1; rw [if_neg (by omega)]
 ·rw [if_neg (by omega)] at h1; rw [if_pos (by omega)]
 ·rw [if_pos (by omega)] at h1; rw [if_pos (by omega)]
 ·rw [if_neg (by omega)] at h1; rw [if_neg (by omega)]
theorem Wpl.cS (hc : Chain n m) (hp : Wpl n a p) (h0 : a ≠ 0) (v : Int) (b : Bool) (i : Nat) :
  Go.Proofs.YtaliejncdnegeaaGreat.cS n p v b i = if i < m ∧ v = (if (0 < a) = (b = true) then (i : Int) + 1 else (i : Int)) then some (max a (-a)) else none := by
 by_cases hi : i < m
 ·obtain ⟨s, hs⟩ := get_of (l := n.Segments) (k := i) (by have := hc.ns; omega)
  obtain ⟨x, hx⟩ := get_of (l := p.Rates) (k := i) (by have := hp.rl; have := hc.ns; omega)
  obtain ⟨e1, e2, e3⟩ := hp.ends hc hs hx h0
  rw [cS_of hs hx, e2, e3]
  by_cases ha : 0 < a <;> cases b <;> simp [ha, e1, hi] <;> congr 1 <;> exact propext ⟨Eq.symm, Eq.symm⟩
 ·rw [if_neg (fun h => hi h.1)]
  cases h : Go.Proofs.YtaliejncdnegeaaGreat.cS n p v b i with
  | none => rfl
  | some y => obtain ⟨s, r, hf, _⟩ := cS_some h; exact absurd hf.lt (by rw [hc.ns]; exact hi)
theorem Wpl.cP (hc : Chain n m) (hp : Wpl n a p) (h0 : a ≠ 0) (v : Int) (b : Bool) (k : Nat) :
  Go.Proofs.YtaliejncdnegeaaGreat.cP n p v b k = if (k = 0 ∧ v = 0 ∧ decide (0 < a) = b) ∨ (k = 1 ∧ v = (m : Int) ∧ decide (a < 0) = b) then some (max a (-a)) else none := by
 obtain ⟨x0, hx0, hn0⟩ := hc.p0
 obtain ⟨x1, hx1, hn1⟩ := hc.p1
 rcases k with _ | _ | k
 ·rw [cP_of hx0 (r := a) (by rw [hp.ports]; rfl), hn0]
  have : (0 = v ∧ a ≠ 0 ∧ decide (a > 0) = b) ↔ ((0 : Nat) = 0 ∧ v = 0 ∧ decide (0 < a) = b) ∨ ((0 : Nat) = 1 ∧ v = (m : Int) ∧ decide (a < 0) = b) :=
   ⟨fun h => .inl ⟨rfl, h.1.symm, h.2.2⟩, fun h => by rcases h with h | h; exact ⟨h.2.1.symm, h0, h.2.2⟩; exact absurd h.1 (by omega)⟩
  simp only [this]
 ·rw [cP_of hx1 (r := -a) (by rw [hp.ports]; rfl), hn1, Int.neg_neg, show max (-a) a = max a (-a) by omega]
  have hd : decide (-a > 0) = decide (a < 0) := by simp
  have : ((m : Int) = v ∧ -a ≠ 0 ∧ decide (-a > 0) = b) ↔ (0 + 1 = 0 ∧ v = 0 ∧ decide (0 < a) = b) ∨ (0 + 1 = 1 ∧ v = (m : Int) ∧ decide (a < 0) = b) :=
   ⟨fun h => .inr ⟨rfl, h.1.symm, by rw [← hd]; exact h.2.2⟩, fun h => by rcases h with h | h; exact absurd h.1 (by omega); exact ⟨h.2.1.symm, by omega, by rw [hd]; exact h.2.2⟩⟩
  simp only [this]
 ·rw [if_neg (by omega)]
  cases h : Go.Proofs.YtaliejncdnegeaaGreat.cP n p v b (k + 1 + 1) with
  | none => rfl
  | some y =>
   obtain ⟨x, r, hx, _⟩ := cP_some h
   have := (gs hx).1
   have := hc.np
   omega
theorem Wpl.way (hc : Chain n m) (hp : Wpl n a p) (h1 : 1 ≤ a) : Way n p m (fun j => (j : Int)) (fun j => j) a 0 1 := by
 have h0 : a ≠ 0 := by omega
 have hm : max a (-a) = a := by omega
 have hns := hc.ns
 have ha : 0 < a := by omega
 refine ⟨h1, by rw [hc.np]; omega, by rw [hc.np]; omega, fun j hj => by omega, fun j k hj => ?_, fun j k hj => ?_, fun j i hj => ?_, fun j i hj => ?_, fun i j _ _ h => by omega, fun i j _ _ h => h, fun v v0 v1 => ?_, fun j hj => ?_⟩
 ·rw [hp.cP hc h0, hm]
  have : ((k = 0 ∧ (j : Int) = 0 ∧ decide (0 < a) = true) ∨ (k = 1 ∧ (j : Int) = (m : Int) ∧ decide (a < 0) = true)) ↔ (j = 0 ∧ k = 0) := by
   simp only [decide_eq_true_eq]; omega
  exact ite_congr (propext this) (fun _ => rfl) (fun _ => rfl)
 ·rw [hp.cP hc h0, hm]
  have : ((k = 0 ∧ (j : Int) = 0 ∧ decide (0 < a) = false) ∨ (k = 1 ∧ (j : Int) = (m : Int) ∧ decide (a < 0) = false)) ↔ (j = m ∧ k = 1) := by
   simp only [decide_eq_false_iff_not]; omega
  exact ite_congr (propext this) (fun _ => rfl) (fun _ => rfl)
 ·rw [hp.cS hc h0, hm]
  have : (i < m ∧ (j : Int) = (if (0 < a) = (true = true) then (i : Int) + 1 else (i : Int))) ↔ (0 < j ∧ i = j - 1) := by
   rw [if_pos (by simp [ha])]; omega
  exact ite_congr (propext this) (fun _ => rfl) (fun _ => rfl)
 ·rw [hp.cS hc h0, hm]
  have : (i < m ∧ (j : Int) = (if (0 < a) = (false = true) then (i : Int) + 1 else (i : Int))) ↔ (j < m ∧ i = j) := by
   rw [if_neg (by simp [ha])]; omega
  exact ite_congr (propext this) (fun _ => rfl) (fun _ => rfl)
 ·rw [hc.nn] at v1
  exact ⟨v.toNat, by omega, by omega⟩
 ·obtain ⟨s, hs⟩ := get_of (l := n.Segments) (k := j) (by omega)
  obtain ⟨x, hx⟩ := get_of (l := p.Rates) (k := j) (by have := hp.rl; omega)
  obtain ⟨e1, _, e3⟩ := hp.ends hc hs hx h0
  rw [if_pos ha] at e3
  exact ⟨s, x, ⟨hs, hx, e1⟩, by rw [e3], by rw [e3]; simp⟩
theorem Wpl.back (hc : Chain n m) (hp : Wpl n (-a) p) (h1 : 1 ≤ a) : Way n p m (fun j => (m : Int) - j) (fun j => m - 1 - j) a 1 0 := by
 have h0 : -a ≠ 0 := by omega
 have hm : max (-a) (- -a) = a := by omega
 have hns := hc.ns
 have ha : ¬ 0 < -a := by omega
 refine ⟨h1, by rw [hc.np]; omega, by rw [hc.np]; omega, fun j hj => by omega, fun j k hj => ?_, fun j k hj => ?_, fun j i hj => ?_, fun j i hj => ?_, fun i j hi hj h => by omega, fun i j hi hj h => by omega, fun v v0 v1 => ?_, fun j hj => ?_⟩
 ·rw [hp.cP hc h0, hm]
  have : ((k = 0 ∧ (m : Int) - j = 0 ∧ decide (0 < -a) = true) ∨ (k = 1 ∧ (m : Int) - j = (m : Int) ∧ decide (-a < 0) = true)) ↔ (j = 0 ∧ k = 1) := by
   simp only [decide_eq_true_eq]; omega
  exact ite_congr (propext this) (fun _ => rfl) (fun _ => rfl)
 ·rw [hp.cP hc h0, hm]
  have : ((k = 0 ∧ (m : Int) - j = 0 ∧ decide (0 < -a) = false) ∨ (k = 1 ∧ (m : Int) - j = (m : Int) ∧ decide (-a < 0) = false)) ↔ (j = m ∧ k = 0) := by
   simp only [decide_eq_false_iff_not]; omega
  exact ite_congr (propext this) (fun _ => rfl) (fun _ => rfl)
 ·rw [hp.cS hc h0, hm]
  have : (i < m ∧ (m : Int) - j = (if (0 < -a) = (true = true) then (i : Int) + 1 else (i : Int))) ↔ (0 < j ∧ i = m - 1 - (j - 1)) := by
   rw [if_neg (by simp; omega)]; omega
  exact ite_congr (propext this) (fun _ => rfl) (fun _ => rfl)
 ·rw [hp.cS hc h0, hm]
  have : (i < m ∧ (m : Int) - j = (if (0 < -a) = (false = true) then (i : Int) + 1 else (i : Int))) ↔ (j < m ∧ i = m - 1 - j) := by
   rw [if_pos (by simp; omega)]; omega
  exact ite_congr (propext this) (fun _ => rfl) (fun _ => rfl)
 ·rw [hc.nn] at v1
  exact ⟨m - v.toNat, by omega, by omega⟩
 ·obtain ⟨s, hs⟩ := get_of (l := n.Segments) (k := m - 1 - j) (by omega)
  obtain ⟨x, hx⟩ := get_of (l := p.Rates) (k := m - 1 - j) (by have := hp.rl; omega)
  obtain ⟨e1, _, e3⟩ := hp.ends hc hs hx h0
  rw [if_neg ha] at e3
  exact ⟨s, x, ⟨hs, hx, e1⟩, by rw [e3]; dsimp only; omega, by rw [e3]; dsimp only; omega⟩
end
section
variable {n : Network} {p : Plan} {g od : List Int} {F0 : Nat → List Int} {m : Nat} {vs : Nat → Int} {sg : Nat → Nat} {r : Int} {ip op : Nat}
end
def up (R : Nat → List Int) (c : Nat) : Nat → List Int
 | 0 => []
 | m + 1 => R c ++ up R (c + 1) m
section
variable {n : Network} {m : Nat} {fs : List (List Piece)} {F : Nat → List Int} {way : List Hop}
end
theorem awake30 : L.zuro = some true := by kernel_rfl
def nz (c : UInt8) (k : Nat) : ByteArray := ⟨#[c, 48 + UInt8.ofNat k]⟩
structure LSeg (k : Nat) (s : Segment) (h : Hop) : Prop where
 name : s.Name = nz 103 (k + 1)
 ends : s.From = (k : Int) ∧ s.To = (k : Int) + 1 ∨ s.From = (k : Int) + 1 ∧ s.To = (k : Int)
 cap : 10 ≤ s.Capacity ∧ s.Capacity ≤ 60
 rest : s.Resist = 0 ∧ s.Wave = 0
 points : s.Points = [⟨0, 0, 1000⟩, ⟨s.Capacity, 0, 1000⟩]
 hop : h = ⟨(k : Int), decide (s.From > s.To)⟩
theorem LSeg.b {k m : Nat} {s : Segment} {h : Hop} (hs : LSeg k s h) (hk : k < m) : SegB (m + 1) s := by
 have h1 := hs.ends; have h2 := hs.cap; have h3 := hs.rest
 refine ⟨by omega, by omega, by omega, by omega, ?_⟩
 rw [hs.points]
 refine ⟨by simp, by simp, by simp, fun i p q hp hq => ?_, by simp, by simp⟩
 rcases i with _ | i
 ·simp at hp hq; subst hp; subst hq; dsimp only; omega
 ·simp at hq
theorem ref12Names_ok {n : Network} (h1 : n.Segments.length ≤ 1000) (h2 : n.Ports.length ≤ 1000) (h3 : n.Stations.length ≤ 1000) :
  Ok (L.zghg n) fun r => r.l = [n.Nodes, n.Segments.map (·.Name), n.Ports.map (·.Name), n.Stations.map (·.Name)] := by
 unfold L.zghg
 refine .bind (maps_ok (g := (·.Name)) (fun _ _ _ => rfl) h1) ?_
 rintro _ rfl
 unfold L.zghg.J1
 refine .bind (maps_ok (g := (·.Name)) (fun _ _ _ => rfl) h2) ?_
 rintro _ rfl
 unfold L.zghg.J2
 refine .bind (maps_ok (g := (·.Name)) (fun _ _ _ => rfl) h3) ?_
 rintro _ rfl
 unfold L.zghg.J3
 exact .pure rfl
theorem Ok.ixs {s : ByteArray} {i : Int} {P : Nat × Int → Prop} (h0 : 0 ≤ i) (h1 : i < (s.size : Int)) (h : ∀ (k : Nat) (x : Int), i = (k : Int) → 0 ≤ x ∧ x ≤ 255 → P (k, x)) : Ok (ixs s i) P := by
 unfold Aw.ixs
 refine ⟨_, if_pos ⟨h0, h1⟩, h _ _ (by omega) ?_⟩
 have := (s.data.getD i.toNat 0).toNat_lt
 omega
theorem nameOk03 {c : UInt8} (hc : c = 110 ∨ c = 103 ∨ c = 113 ∨ c = 115) {k : Nat} (hk : k < 26) : L.zgmr (nm c k) = some true := by
 rcases hc with rfl | rfl | rfl | rfl <;>
  rcases lt26 hk with rfl | rfl | rfl | rfl | rfl | rfl | rfl | rfl | rfl | rfl | rfl | rfl | rfl | rfl | rfl | rfl | rfl | rfl | rfl | rfl | rfl | rfl | rfl | rfl | rfl | rfl <;> kernel_rfl
theorem twice12 {c : UInt8} {l : List ByteArray} (h : Named c l) : L.zaag l = some false := by
 have : Ok (L.zaag l) fun r => r = false := by
  obtain ⟨h1, h2⟩ := h
  unfold L.zaag
  refine .bind' (.forL (fun _ _ => True) (fun _ => False) trivial ?_ (fun _ _ => .pure rfl) fun _ h => h.elim)
  intro k x _ hx _
  have hkl := (gs hx).1
  unfold L.zaag.B2
  refine .bind (Q := fun d : Bool ⊕ Unit => d = .inr ()) ?_ ?_
  ·refine .loop (fun st : Int => 0 ≤ st ∧ st ≤ (k : Int)) (fun st => k - st.toNat) ⟨by omega, by omega⟩ (by omega) ?_
   rintro st ⟨h0, h3⟩
   unfold L.zaag.B4
   refine Ok.iteD (fun hlt => .bind' (.ix' h0 (by omega) fun j y hj hy => Ok.iteB (fun he => ?_) fun _ => .pure ?_)) fun _ => .pure rfl
   ·have e1 := h2 k x hx; have e2 := h2 j y hy
    subst e1; subst e2
    have := nm_inj (by omega) (by omega) he
    omega
   ·rw [wr_id (by omega)]
    exact ⟨⟨by omega, by omega⟩, by omega⟩
  ·rintro _ rfl
   exact .pure trivial
 obtain ⟨r, h, rfl⟩ := this
 exact h
theorem proper12 {nodes k : Nat} {s : Segment} (h : SegOk nodes k s) : L.zimi s = some true := by
 have : Ok (L.zimi s) fun r => r = true := by
  have hp := h.points
  have h1 := h.ends; have h2 := h.cap; have h3 := h.resist; have h4 := h.wave; have h5 := hp.len
  have e0 : s.Points[0]? = some s.Points[0] := gq (by omega)
  have el : s.Points[s.Points.length - 1]? = some s.Points[s.Points.length - 1] := gq (by omega)
  have q0 := hp.first _ e0; have ql := hp.last _ el
  unfold L.zimi
  refine Ok.iteE (fun h => by omega) fun _ => Ok.iteN (fun hb => by simp [L.zmae] at hb; omega) fun _ => Ok.iteN (fun hb => by simp [L.zmae] at hb; omega) fun _ => Ok.iteN (fun hb => by simp [L.zmae] at hb; omega) fun _ => ?_
  refine .bind' (.ix 0 rfl (by omega) (Ok.iteU (fun h => absurd q0 h) fun _ => ?_))
  rw [wr_id (by omega)]
  refine .bind' (.ix (s.Points.length - 1) (by omega) (by omega) ?_)
  dsimp only
  rw [ql]
  unfold L.zimi.J1
  refine Ok.iteB (fun h => by simp at h) fun _ => .bind' (.forL (fun _ _ => True) (fun _ => False) trivial ?_ (fun _ _ => .pure rfl) fun _ h => h.elim)
  intro i p _ hi _
  have hm := mg hi
  have g1 := hp.height p hm; have g2 := hp.limit p hm
  have no : Ok (L.zimi.J4 (!(L.zmae p.Limit 0 100000000))) (Sum.elim (fun _ : Unit => True) fun _ : Bool => False) := by
   unfold L.zimi.J4
   refine Ok.iteN (fun hb => by simp [L.zmae] at hb; omega) fun _ => .pure trivial
  unfold L.zimi.B3
  refine Ok.iteD (fun h0 => ?_) fun h0 => Ok.iteN (fun hb => by simp [L.zmae] at hb; omega) fun _ => no
  rw [wr_id (by have := (gs hi).1; omega)]
  obtain ⟨j, rfl⟩ : ∃ j, i = j + 1 := ⟨i - 1, by omega⟩
  have hjl : j < s.Points.length := by have := (gs hi).1; omega
  have hj : s.Points[j]? = some s.Points[j] := gq hjl
  have hup := hp.up j _ p hj hi
  refine .bind' (.ix j (by omega) hjl (Ok.iteD (fun h => by dsimp only at h; omega) fun _ => Ok.iteN (fun hb => by simp [L.zmae] at hb; omega) fun _ => no))
 obtain ⟨r, h, rfl⟩ := this
 exact h
theorem check12 {n : Network} (h : NetOk n) : L.zgcl n = some 0 := by
 have : Ok (L.zgcl n) fun r => r = 0 := by
  have h1 := h.nodes; have h2 := h.segs1; have h3 := h.ports1; have h4 := h.sts1; have h5 := h.vapour; have h6 := h.settle
  have T : ∀ {α β : Type} {l : List α} {f : Nat → α → Unit → Option (Unit ⊕ β)} {K : Unit ⊕ β → Option β} {P : β → Prop}, (∀ k x, l[k]? = some x → f k x () = some (.inl ())) → Ok (K (.inl ())) P → Ok ((forL f 0 l ()).bind K) P := by
   intro α β l f K P hf hK
   refine .bind' (.forL (fun _ _ => True) (fun _ => False) trivial (fun k x st hx _ => ?_) (fun _ _ => hK) fun _ h => h.elim)
   exact ⟨_, hf k x hx, trivial⟩
  unfold L.zgcl
  refine Ok.iteB (fun hb => by simp [L.zmae] at hb; omega) fun _ => T (fun k x hx => ?_) ?_
  ·have := (h.segs k x hx).points.len
   unfold L.zgcl.B24; rw [if_neg (by simp [L.zmae]; omega)]
  simp only [Sum.elim_inl]
  unfold L.zgcl.J1
  refine .bind (ref12Names_ok (by omega) (by omega) (by omega)) fun r hr => ?_
  have hnm : ∀ (k : Nat) (hk : k < 4), r.l[k]'(by rw [hr]; exact hk) = ([n.Nodes, n.Segments.map (·.Name), n.Ports.map (·.Name), n.Stations.map (·.Name)])[k]'hk := fun k hk => by simp only [hr]
  refine .bind' (.forI (fun _ _ => True) (fun _ => False) trivial ?_ ?_ fun _ h => h.elim)
  ·intro k _ hk _
   obtain ⟨c, hc, hl⟩ := h.named _ (List.getElem_mem (l := [n.Nodes, n.Segments.map (·.Name), n.Ports.map (·.Name), n.Stations.map (·.Name)]) (n := k) hk)
   unfold L.zgcl.B21
   refine .bind' (.ix k rfl (by rw [hr]; exact hk) ?_)
   dsimp only
   rw [hnm k hk]
   refine .bind' (.forL (fun _ _ => True) (fun _ => False) trivial ?_ (fun _ _ => .pure trivial) fun _ h => h.elim)
   intro j x _ hx _
   have := hl.2 j x hx
   have hjl := (gs hx).1
   subst this
   unfold L.zgcl.B23
   rw [nameOk03 hc (by have := hl.1; omega)]
   exact .bind' (.pure (Ok.iteN (fun h => by cases h) fun _ => .pure trivial))
  intro _ _
  simp only [Sum.elim_inl]
  unfold L.zgcl.J2
  refine .bind' (.forI (fun _ _ => True) (fun _ => False) trivial ?_ ?_ fun _ h => h.elim)
  ·intro k _ hk _
   obtain ⟨c, hc, hl⟩ := h.named _ (List.getElem_mem (l := [n.Nodes, n.Segments.map (·.Name), n.Ports.map (·.Name), n.Stations.map (·.Name)]) (n := k) hk)
   unfold L.zgcl.B20
   refine .bind' (.ix k rfl (by rw [hr]; exact hk) ?_)
   dsimp only
   rw [hnm k hk, twice12 hl]
   exact .bind' (.pure (Ok.iteB (fun h => by cases h) fun _ => .pure trivial))
  intro _ _
  simp only [Sum.elim_inl]
  unfold L.zgcl.J3
  refine .bind' (.forL (fun _ _ => True) (fun _ => False) trivial ?_ ?_ fun _ h => h.elim)
  ·intro k x _ hx _
   have hkl := (gs hx).1
   unfold L.zgcl.B17
   refine .bind (Q := fun d : Int ⊕ Unit => d = .inr ()) ?_ ?_
   ·refine .loop (fun st : Int => 0 ≤ st ∧ st ≤ (k : Int)) (fun st => k - st.toNat) ⟨by omega, by omega⟩ (by omega) ?_
    rintro st ⟨h0, h1⟩
    unfold L.zgcl.B19
    refine Ok.iteD (fun hlt => .bind' (.ix' h0 (by omega) fun j y hj hy => Ok.iteE (fun he => ?_) fun _ => .pure ?_)) fun _ => .pure rfl
    ·have := h.stsUp j k y x (by omega) hy hx
     dsimp only at he; omega
    ·rw [wr_id (by omega)]
     exact ⟨⟨by omega, by omega⟩, by omega⟩
   ·rintro _ rfl
    exact .pure trivial
  intro _ _
  simp only [Sum.elim_inl]
  unfold L.zgcl.J4
  refine T (fun k x hx => ?_) ?_
  ·have := (h.segs k x hx).ends
   unfold L.zgcl.B16; rw [wr_id (by omega), if_neg (by simp [L.zmae]; omega)]
  simp only [Sum.elim_inl]
  unfold L.zgcl.J5
  refine T (fun k x hx => ?_) ?_
  ·have := (h.ports k x hx).node
   unfold L.zgcl.B15; rw [wr_id (by omega), if_neg (by simp [L.zmae]; omega)]
  simp only [Sum.elim_inl]
  unfold L.zgcl.J6
  refine T (fun k x hx => ?_) ?_
  ·have := (h.sts k x hx).node
   unfold L.zgcl.B14; rw [wr_id (by omega), if_neg (by simp [L.zmae]; omega)]
  simp only [Sum.elim_inl]
  unfold L.zgcl.J7
  refine T (fun k x hx => ?_) ?_
  ·unfold L.zgcl.B13; rw [proper12 (h.segs k x hx)]; rfl
  simp only [Sum.elim_inl]
  unfold L.zgcl.J8
  refine T (fun k x hx => ?_) ?_
  ·have := (h.ports k x hx).pressure
   unfold L.zgcl.B12; rw [if_neg (by simp [L.zmae]; omega)]
  simp only [Sum.elim_inl]
  unfold L.zgcl.J9
  refine T (fun k x hx => ?_) ?_
  ·have a1 := (h.sts k x hx).head; have a2 := (h.sts k x hx).fall; have a3 := (h.sts k x hx).suction
   unfold L.zgcl.B11; rw [if_neg (by simp [L.zmae]; omega)]
  simp only [Sum.elim_inl]
  unfold L.zgcl.J10
  exact Ok.iteB (fun hb => by simp [L.zmae] at hb; omega) fun _ => .pure rfl
 obtain ⟨r, h, rfl⟩ := this
 exact h
def lpsh (k : Int) (l : List Lot) (x : Piece) : List Lot :=
 match l.getLast? with
 | some q => if q.Batch = x.Batch then l.dropLast ++ [⟨q.Batch, q.Volume + x.Volume, q.Done⟩] else l ++ [⟨x.Batch, x.Volume, k⟩]
 | none => [⟨x.Batch, x.Volume, k⟩]
theorem lpsh_nil (k : Int) (x : Piece) : lpsh k [] x = [⟨x.Batch, x.Volume, k⟩] := rfl
theorem lpsh_snoc (k : Int) (l : List Lot) (q : Lot) (x : Piece) : lpsh k (l ++ [q]) x = if q.Batch = x.Batch then l ++ [⟨q.Batch, q.Volume + x.Volume, q.Done⟩] else l ++ [q] ++ [⟨x.Batch, x.Volume, k⟩] := by simp [lpsh]
def lvol (l : List Lot) : Int := (l.map (·.Volume)).sum
theorem lvol_app (l m : List Lot) : lvol (l ++ m) = lvol l + lvol m := by simp [lvol]
theorem lpsh_vol (k : Int) (l : List Lot) (x : Piece) : lvol (lpsh k l x) = lvol l + x.Volume := by
 rcases snoc_cases l with rfl | ⟨a, q, rfl⟩
 ·simp [lpsh_nil, lvol]
 ·rw [lpsh_snoc]
  split
  ·rw [lvol_app, lvol_app]; simp [lvol]; omega
  ·rw [lvol_app]; simp [lvol]
structure LInv (k : Int) (l : List Lot) : Prop where
 up : ∀ (i : Nat) (p q : Lot), l[i]? = some p → l[i + 1]? = some q → p.Done ≤ q.Done ∧ p.Batch ≠ q.Batch
 top : ∀ p, p ∈ l → p.Done ≤ k
 pos : ∀ p, p ∈ l → 1 ≤ p.Volume
theorem LInv.snoc {k : Int} {a : List Lot} {x : Lot} (h : LInv k a) (h1 : x.Done ≤ k) (h2 : 1 ≤ x.Volume) (hn : ∀ q, a.getLast? = some q → q.Done ≤ x.Done ∧ q.Batch ≠ x.Batch) : LInv k (a ++ [x]) := by
 refine ⟨fun i p q hp hq => ?_, fun p hp => ?_, fun p hp => ?_⟩
 ·rw [List.getElem?_append] at hp hq
  split at hq
  ·rw [if_pos (by omega)] at hp; exact h.up i p q hp hq
  ·rename_i hi
   have hb := (gs hq).1
   simp at hb
   have e : i + 1 = a.length := by omega
   rw [if_pos (by omega)] at hp
   simp [e] at hq
   subst hq
   refine hn p ?_
   rw [List.getLast?_eq_getElem?, show a.length - 1 = i by omega]; exact hp
 ·rcases List.mem_append.1 hp with hp | hp
  ·exact h.top p hp
  ·simp at hp; subst hp; exact h1
 ·rcases List.mem_append.1 hp with hp | hp
  ·exact h.pos p hp
  ·simp at hp; subst hp; exact h2
theorem LInv.init {k : Int} {a : List Lot} {x : Lot} (h : LInv k (a ++ [x])) : LInv k a :=
 ⟨fun i p q hp hq => by
  have h1 := (gs hp).1
  have h2 := (gs hq).1
  exact h.up i p q (by rw [List.getElem?_append_left h1]; exact hp) (by rw [List.getElem?_append_left h2]; exact hq), fun p hp => h.top p (by simp [hp]), fun p hp => h.pos p (by simp [hp])⟩
theorem lpsh_inv {k : Int} {l : List Lot} {x : Piece} (h : LInv k l) (hx : 1 ≤ x.Volume) : LInv k (lpsh k l x) := by
 rcases snoc_cases l with rfl | ⟨a, q, rfl⟩
 ·exact LInv.snoc (a := []) ⟨by simp, by simp, by simp⟩ (by dsimp only; omega) hx (by simp)
 ·have h1 := h.top q (by simp); have h2 := h.pos q (by simp)
  rw [lpsh_snoc]
  split
  ·refine h.init.snoc h1 (by dsimp only; omega) fun z hz => ?_
   rw [List.getLast?_eq_getElem?] at hz
   have hzl := (gs hz).1
   exact h.up (a.length - 1) z q (by rw [List.getElem?_append_left (by omega)]; exact hz) (by rw [show a.length - 1 + 1 = a.length by omega]; simp)
  ·rename_i hb
   refine h.snoc (by dsimp only; omega) hx fun z hz => ?_
   simp at hz; subst hz; exact ⟨h1, hb⟩
theorem LInv.mono {k j : Int} {l : List Lot} (h : LInv k l) (hk : k ≤ j) : LInv j l := ⟨h.up, fun p hp => by have := h.top p hp; omega, h.pos⟩
structure Ext (x y : List Lot) : Prop where
 len : x.length ≤ y.length
 lots : ∀ (i : Nat) (p q : Lot), x[i]? = some p → y[i]? = some q → p.Batch = q.Batch ∧ p.Done = q.Done ∧ p.Volume ≤ q.Volume
theorem Ext.refl (x : List Lot) : Ext x x := ⟨Nat.le_refl _, fun i p q hp hq => by rw [hp] at hq; cases hq; exact ⟨rfl, rfl, Int.le_refl _⟩⟩
theorem Ext.trans {x y z : List Lot} (h : Ext x y) (k : Ext y z) : Ext x z := ⟨by have := h.len; have := k.len; omega, fun i p q hp hq => by
 obtain ⟨r, hr⟩ := get_of (l := y) (k := i) (by have := (gs hp).1; have := h.len; omega)
 have h1 := h.lots i p r hp hr; have h2 := k.lots i r q hr hq
 exact ⟨h1.1.trans h2.1, h1.2.1.trans h2.2.1, by omega⟩⟩
theorem lpsh_ext (k : Int) (l : List Lot) {x : Piece} (hx : 0 ≤ x.Volume) : Ext l (lpsh k l x) := by
 rcases snoc_cases l with rfl | ⟨a, q, rfl⟩
 ·exact ⟨by simp, by simp⟩
 ·rw [lpsh_snoc]
  split
  ·refine ⟨by simp, fun i p r hp hr => ?_⟩
   rw [List.getElem?_append] at hp hr
   split at hp
   ·rename_i hi
    rw [if_pos hi, hp] at hr; cases hr; exact ⟨rfl, rfl, Int.le_refl _⟩
   ·rename_i hi
    rw [if_neg hi] at hr
    have hb := (gs hp).1
    simp at hb
    rw [show i - a.length = 0 by omega] at hp hr
    simp at hp hr; subst hp; subst hr; exact ⟨rfl, rfl, by dsimp only; omega⟩
  ·refine ⟨by simp, fun i p r hp hr => ?_⟩
   have hi := (gs hp).1
   rw [List.getElem?_append_left hi, hp] at hr; cases hr; exact ⟨rfl, rfl, Int.le_refl _⟩
theorem fold_ext (k : Int) : ∀ (f : List Piece) (l : List Lot), (∀ p, p ∈ f → 0 ≤ p.Volume) → Ext l (f.foldl (lpsh k) l)
 | [], l, _ => .refl l
 | x :: f, l, h => (lpsh_ext k l (h x (by simp))).trans (fold_ext k f _ fun p hp => h p (by simp [hp]))
theorem fold_inv (k : Int) : ∀ (f : List Piece) (l : List Lot), (∀ p, p ∈ f → 1 ≤ p.Volume) → LInv k l → LInv k (f.foldl (lpsh k) l) ∧ lvol (f.foldl (lpsh k) l) = lvol l + vol f
 | [], l, _, hl => ⟨hl, by simp [vol_nil]⟩
 | x :: f, l, h, hl => by
  obtain ⟨h1, h2⟩ := fold_inv k f (lpsh k l x) (fun p hp => h p (by simp [hp])) (lpsh_inv hl (h x (by simp)))
  exact ⟨h1, by rw [List.foldl_cons, h2, lpsh_vol, vol_cons]; omega⟩
theorem lvol_pos : ∀ (l : List Lot), (∀ p, p ∈ l → 1 ≤ p.Volume) → (l.length : Int) ≤ lvol l ∧ ∀ p, p ∈ l → p.Volume ≤ lvol l
 | [], _ => ⟨by simp [lvol], by simp⟩
 | x :: l, h => by
  have hx := h x (by simp)
  obtain ⟨h1, h2⟩ := lvol_pos l fun p hp => h p (by simp [hp])
  have e : lvol (x :: l) = x.Volume + lvol l := by simp [lvol]
  rw [e]
  refine ⟨by rw [List.length_cons]; omega, fun p hp => ?_⟩
  rcases List.mem_cons.1 hp with rfl | hp
  ·omega
  ·have := h2 p hp; omega
theorem lots_loop {k : Nat} {f : List Piece} {l : List Lot} (hf : ∀ p, p ∈ f → 1 ≤ p.Volume) (hl : LInv k l) (hb : lvol l + vol f ≤ 1000000000) : forS (L.zrct.B5 k) 0 f l = some (f.foldl (lpsh k) l) := by
 have : Ok (forS (L.zrct.B5 k) 0 f l) fun r => r = f.foldl (lpsh k) l := by
  refine .forS (fun i st => st = (f.take i).foldl (lpsh k) l) rfl ?_ fun st h => by rw [h, List.take_length]
  rintro i x _ hx rfl
  have hm := mg hx
  have hx1 := hf x hm
  obtain ⟨g1, g2⟩ := fold_inv k (f.take i) l (fun p hp => hf p (List.mem_of_mem_take hp)) hl
  have h3 : vol f = vol (f.take (i + 1)) + vol (f.drop (i + 1)) := by rw [← vol_app, List.take_append_drop]
  have h4 := vol_pos (f := f.drop (i + 1)) fun p hp => by have := hf p (List.mem_of_mem_drop hp); omega
  have h5 := vol_take_succ hx
  have e : (f.take (i + 1)).foldl (lpsh k) l = lpsh k ((f.take i).foldl (lpsh k) l) x := by rw [List.take_add_one, hx]; simp [List.foldl_append]
  rw [e]
  generalize (f.take i).foldl (lpsh k) l = st at g1 g2
  obtain ⟨b1, b2⟩ := lvol_pos st g1.pos
  unfold L.zrct.B5
  rcases snoc_cases st with rfl | ⟨a, q, rfl⟩
  ·rw [if_neg (by simp; rw [wr_id (by omega)]; omega)]
   unfold L.zrct.J7
   rw [if_neg (by simp), if_pos (by simp; omega)]
   refine .bind' (.app (by simp) (.pure rfl))
  ·have hq := b2 q (by simp); have hq1 := g1.pos q (by simp)
   have e1 : wr (((a ++ [q]).length : Int) - 1) = (a.length : Int) := by
    rw [List.length_append, List.length_singleton] at b1 ⊢; rw [wr_id (by omega)]; omega
   have hi : ix (a ++ [q]) (wr (((a ++ [q]).length : Int) - 1)) = some (a.length, q) := by rw [e1]; exact ix_nat (by simp)
   rw [if_pos (by rw [e1]; simp), hi, Option.bind_some]
   unfold L.zrct.J7
   rw [lpsh_snoc]
   by_cases hb2 : q.Batch = x.Batch
   ·rw [if_pos (by simp [hb2]), hi, Option.bind_some, if_pos hb2]
    dsimp only
    rw [wr_id (by omega)]
    exact .pure (by simp [L.zrct.J6])
   ·rw [if_neg (by simp [hb2]), if_pos (by simp; omega), if_neg hb2]
    refine .bind' (.app (by simp at b1 ⊢; omega) (.pure rfl))
 obtain ⟨r, h1, h2⟩ := this
 rw [h1, h2]
section
variable {n : Network} {p : Plan} {g : List Int} {fs fs0 : List (List Piece)} {F0 F : Nat → List Int} {port : Nat}
inductive Arr (n : Network) (p : Plan) (g : List Int) (fs0 : List (List Piece)) (port : Nat) : Nat → List (List Piece) → List Lot → Prop
 | zero : Arr n p g fs0 port 0 fs0 []
 | succ {k : Nat} {fs fs' os : List (List Piece)} {l : List Lot} {f : List Piece} : Arr n p g fs0 port k fs l → L.zcgl n fs p g = some (fs', os, 0) → os[port]? = some f → (∀ x, x ∈ f → 1 ≤ x.Volume) →
   Arr n p g fs0 port (k + 1) fs' (f.foldl (lpsh k) l)
theorem Arr.det {k : Nat} {l : List Lot} (h : Arr n p g fs0 port k fs l) : ∀ {fs1 : List (List Piece)} {l1 : List Lot}, Arr n p g fs0 port k fs1 l1 → fs = fs1 ∧ l = l1 := by
 induction h with
 | zero => intro _ _ h1; cases h1; exact ⟨rfl, rfl⟩
 | succ h t o _ ih =>
  intro _ _ h1
  cases h1 with
  | succ h2 t2 o2 _ =>
   obtain ⟨rfl, rfl⟩ := ih h2
   rw [t] at t2; cases t2
   rw [o] at o2; cases o2
   exact ⟨rfl, rfl⟩
theorem Arr.ext {i : Nat} {x : List Lot} {fs1 : List (List Piece)} (h : Arr n p g fs0 port i fs1 x) : ∀ {j : Nat} {fs : List (List Piece)} {y : List Lot}, Arr n p g fs0 port (i + j) fs y → Ext x y
 | 0, _, _, h1 => by rw [(h.det h1).2]; exact .refl _
 | j + 1, _, _, h1 => by
  cases h1 with
  | succ h2 _ _ hf => exact (h.ext h2).trans (fold_ext _ _ _ fun p hp => by have := hf p hp; omega)
theorem arrivals_ok (hL : Ln n p g) (hf : Fil n fs F0) (hp : port < n.Ports.length) {t : Nat} (ht : t ≤ 400) :
  Ok (L.zrct n fs p g (port : Int) (t : Int)) fun q => q.2 = 4 ∨ q.2 = 0 ∧ ∃ fs' F A, Tks n p g fs F0 t fs' F A ∧ Arr n p g fs port t fs' q.1 ∧ LInv t q.1 ∧ lvol q.1 = ((A port).length : Int) := by
 unfold L.zrct L.zpyk
 refine .bind' (.bind' (.eq hL.net.check ?_))
 rw [if_neg (by simp)]
 refine .bind' (.eq (check_ok hL.net hf) ?_)
 rw [if_neg (by simp), if_neg (by simp; omega), if_neg (by simp; omega)]
 refine .pure ?_
 rw [if_neg (by simp)]
 refine .bind' (.chk (by omega) ?_)
 rw [show ((t : Int).toNat) = t by omega]
 refine .bind' (.forI (fun k st => ∃ F A, Tks n p g fs F0 k st.1 F A ∧ Arr n p g fs port k st.1 st.2 ∧ LInv k st.2 ∧ lvol st.2 = ((A port).length : Int)) (fun q => q.2 = 4) ⟨F0, _, .zero, .zero, ⟨by simp, by simp, by simp⟩, rfl⟩ ?_ ?_ fun q hq => .pure (.inl hq))
 ·rintro k ⟨now, l⟩ hk ⟨F, A, h1, h2, h3, h4⟩
  dsimp only at h1 h2 h3 h4
  obtain ⟨⟨tf, to, te⟩, hT, hT2⟩ := Tick_ok hL (h1.fil hf)
  unfold L.zrct.B2
  refine .bind' (.eq hT ?_)
  rcases hT2 with ⟨hT2, _⟩ | ⟨hT2, F', O, q1, q2, q3⟩
  ·cases hT2; rw [if_pos (by simp)]; exact .pure rfl
  ·dsimp only at hT2 q1 q2 q3
   subst hT2
   rw [if_neg (by simp)]
   have ho := q3.get port hp
   have hO := q1.out1000 hL hp
   have hA := h1.len hL hp
   refine .bind' (.eq (ix_nat ho) ?_)
   dsimp only
   refine .bind' (.eq (lots_loop (rle_can _).pos h3 (by rw [h4, vol_rle]; omega)) ?_)
   obtain ⟨g1, g2⟩ := fold_inv k (rle (O port)) l (rle_can _).pos h3
   refine .pure ⟨F', _, h1.succ hT q1 q2 q3, h2.succ hT ho (rle_can _).pos, g1.mono (by omega), ?_⟩
   dsimp only
   rw [g2, h4, vol_rle, List.length_append]; omega
 ·rintro ⟨now, l⟩ ⟨F, A, h1, h2, h3, h4⟩
  exact .pure (.inr ⟨rfl, now, F, A, h1, h2, h3, h4⟩)
theorem valid14_ok {f : List Piece} (h : Vd f) : L.zmux f = some true := by
 have h1 := h.len; have h2 := h.vol
 have : Ok (L.zmux f) fun r => r = true := by
  unfold L.zmux
  refine Ok.iteD (fun h => by omega) fun _ => .bind' (.forL (fun k st => st = vol (f.take k)) (fun _ => False) rfl ?_ ?_ (fun _ h => h.elim))
  ·rintro k x _ hx rfl
   have hp := h.piece (mg hx)
   have h3 : vol f = vol (f.take (k + 1)) + vol (f.drop (k + 1)) := by rw [← vol_app, List.take_append_drop]
   have h4 := vol_pos (f := f.drop (k + 1)) fun p hp => h.nn p (List.mem_of_mem_drop hp)
   have h5 := vol_take_succ hx
   have h6 := vol_pos (f := f.take k) fun p hp => h.nn p (List.mem_of_mem_take hp)
   have e : ∀ b, b = false → Ok (L.zmux.J3 x (vol (f.take k)) b) (Sum.elim (fun st : Int => st = vol (f.take (k + 1))) fun _ : Bool => False) := by
    rintro _ rfl
    unfold L.zmux.J3
    rw [if_neg (by simp), wr_id (by omega)]
    exact .pure (by show _ = _; omega)
   unfold L.zmux.B2 L.zcjy
   rw [if_neg (by simp; omega), if_neg (by simp; omega), if_neg (by simp; omega)]
   refine Ok.iteD (fun hk => ?_) fun _ => e _ rfl
   have hkl := (gs hx).1
   rw [wr_id (by omega)]
   refine .bind' (.ix' (by omega) (by omega) fun j y hj hy => e _ ?_)
   have hn := h.can.ne j y x hy (by rw [show j + 1 = k by omega]; exact hx)
   simpa using Ne.symm hn
  ·rintro _ rfl
   rw [List.take_length]
   unfold L.zmux.J1
   exact .pure (by simp; omega)
 obtain ⟨r, h1, rfl⟩ := this
 exact h1
theorem check18_ok (hn : NetG n) (h12 : L.zgcl n = some 0) (h : Fil n fs F0) : L.zjfe n fs = some 0 := by
 have hl := h.rp.len
 have : Ok (L.zjfe n fs) fun r => r = 0 := by
  unfold L.zjfe
  refine .bind' (.eq h12 ?_)
  rw [if_neg (by simp), if_neg (by simp; omega)]
  refine .bind' (.forL (fun _ _ => True) (fun _ => False) trivial ?_ ?_ (fun _ h => h.elim))
  ·intro k x _ hx _
   have hk := (gs hx).1
   have hv := h.vd k (by omega)
   rw [h.rp.get k (by omega)] at hx
   cases hx
   unfold L.zjfe.B4
   rw [valid14_ok hv, Option.bind_some, if_neg (by simp)]
   exact .pure trivial
  ·intro _ _
   show Ok (L.zjfe.J1 n fs ()) _
   unfold L.zjfe.J1
   refine .bind' (.forL (fun _ _ => True) (fun _ => False) trivial ?_ (fun _ _ => .pure rfl) (fun _ h => h.elim))
   intro k x _ hx _
   have hk := (gs hx).1
   have hv := h.vd k (by omega)
   have hvol := hv.vol
   obtain ⟨s, hs⟩ := get_of (l := n.Segments) (k := k) (by omega)
   have hcap := h.cap k s hs
   rw [h.rp.get k (by omega)] at hx
   cases hx
   unfold L.zjfe.B3
   rw [sum14_eq hv.nn (by omega), Option.bind_some, ix_nat hs, Option.bind_some, vol_rle]
   dsimp only
   rw [if_neg (by simp [hcap])]
   exact .pure trivial
 obtain ⟨r, h1, rfl⟩ := this
 exact h1
end
theorem lvol_take_succ {f : List Lot} {k : Nat} {p : Lot} (h : f[k]? = some p) : lvol (f.take (k + 1)) = lvol (f.take k) + p.Volume := by
 rw [List.take_add_one, h, lvol_app]; simp [lvol]
theorem forecastVolumes (l : List Int) (a b : Int) (ha : 0 ≤ a ∧ a ≤ 255) (hb : 0 ≤ b ∧ b ≤ 255) : L.zznx l a b = some true := by
 have : Ok (L.zznx l a b) fun r => r = true := by
  have wake : Ok (Option.bind L.zuro fun r => some r) fun r => r = true := by rw [awake30]; exact .pure rfl
  unfold L.zznx
  refine Ok.iteB (fun _ => wake) fun _ => ?_
  refine .bind (new_ok l) fun d0 hd0 => .bind (net_ok hd0) ?_
  rintro ⟨n, d1⟩ ⟨hn0, hd1⟩
  dsimp only at hn0 hd1 ⊢
  have hn := hn0.g
  refine .bind (fills_ok hn hd1 (m := 5) (by omega)) ?_
  rintro ⟨fs, d2⟩ ⟨hd2, F0, hf, _⟩
  refine .bind (plan_ok hn0 hd2) ?_
  rintro ⟨⟨R, P, M⟩, d3⟩ ⟨hp, hd3⟩
  refine .bind (feeds_ok hn hd3 (m := 5) (by omega)) ?_
  rintro ⟨g, d4⟩ ⟨hd4, hg1, hg2⟩
  dsimp only at hf hp hg1 hg2 hd4 ⊢
  have s0 := hn0.nodes; have s1 := hn.segs1; have s2 := hn.ports1; have s3 := hn.sts1
  have hL : Ln n ⟨R, P, M⟩ g := ⟨hn, hp.flow, hg1, fun b hb => by have := hg2 b hb; omega⟩
  have hpl : P.length = n.Ports.length := hp.pl
  unfold L.zznx.J1
  dsimp only
  refine .bind (n_ok hd4.eta (n := (n.Ports.length : Int)) (by omega) (by omega)) ?_
  rintro ⟨pt, d5⟩ ⟨_, p1, p2⟩
  dsimp only at p1 p2 ⊢
  obtain ⟨port, rfl⟩ := nat_of p1
  obtain ⟨i, hi, hi12⟩ := u8_mod ha (m := 12) (by omega)
  obtain ⟨j, hj, hj6⟩ := u8_mod hb (m := 6) (by omega)
  have ek : wr ((wr a).tmod 12 + (wr b).tmod 6) = ((i + j : Nat) : Int) := by rw [hi, hj, wr_id (by omega)]; omega
  rw [ek, hi]
  obtain ⟨⟨x, ex⟩, hx1, hx⟩ := arrivals_ok hL hf (port := port) (by omega) (t := i) (by omega)
  obtain ⟨⟨y, ey⟩, hy1, hy⟩ := arrivals_ok hL hf (port := port) (by omega) (t := i + j) (by omega)
  refine .bind' (.eq hx1 (.bind' (.eq hy1 (Ok.iteB (fun _ => wake) fun h4 => ?_))))
  dsimp only at h4 hx hy
  simp at h4
  rcases hx with hx | ⟨rfl, _, _, _, _, x2, _, _⟩
  ·exact absurd hx h4.1
  rcases hy with hy | ⟨rfl, fs', F, A, y1, y2, y3, y4⟩
  ·exact absurd hy h4.2
  have hE := x2.ext y2
  obtain ⟨z, hz⟩ := get_of (l := n.Ports) (k := port) (by omega)
  obtain ⟨v, hv⟩ := get_of (l := P) (k := port) (by omega)
  have hv2 : -1000 ≤ v ∧ v ≤ 1000 := hp.prt port v hv
  have hAl := y1.outLen hL hz hv
  have h3 : 0 ≤ ((i + j : Nat) : Int) * max 0 (-v) ∧ ((i + j : Nat) : Int) * max 0 (-v) ≤ 20 * 1000 := ⟨Int.mul_nonneg (by omega) (by omega), Int.mul_le_mul (by omega) (by omega) (by omega) (by omega)⟩
  obtain ⟨lv1, lv2⟩ := lvol_pos y y3.pos
  refine .bind (Q := Sum.elim (fun _ : Bool => False) fun s : Int => s = lvol y) (.loop (fun st => ∃ k : Nat, st.2 = (k : Int) ∧ k ≤ y.length ∧ st.1 = lvol (y.take k)) (fun st => y.length - st.2.toNat) ⟨0, rfl, by omega, rfl⟩ (by dsimp only; omega) ?_) ?_
  ·rintro ⟨_, _⟩ ⟨k, rfl, hk, rfl⟩
   unfold L.zznx.B4
   dsimp only
   refine Ok.iteD (fun h => ?_) fun h => .pure ?_
   ·obtain ⟨q, hq⟩ := get_of (l := y) (k := k) (by omega)
    have hqm := mg hq
    have hq1 := y3.pos q hqm; have hq2 := lv2 q hqm
    have e1 := lvol_take_succ hq
    have e2 : lvol y = lvol (y.take (k + 1)) + lvol (y.drop (k + 1)) := by rw [← lvol_app, List.take_append_drop]
    have e3 := (lvol_pos (y.drop (k + 1)) fun p hp => y3.pos p (List.mem_of_mem_drop hp)).1
    have e4 := (lvol_pos (y.take k) fun p hp => y3.pos p (List.mem_of_mem_take hp)).1
    have fin : ∀ c, c = false → Ok (L.zznx.J5 (lvol (y.take k), (k : Int)) (k, q) c) (Sum.elim (fun st => (∃ k : Nat, st.2 = (k : Int) ∧ k ≤ y.length ∧ st.1 = lvol (y.take k)) ∧ y.length - st.2.toNat < y.length - (k : Int).toNat) (Sum.elim (fun _ : Bool => False) fun s : Int => s = lvol y)) := by
     rintro _ rfl
     unfold L.zznx.J5
     rw [if_neg (by simp)]
     dsimp only
     rw [wr_id (by omega), wr_id (by omega)]
     exact .pure ⟨⟨k + 1, by omega, by omega, by dsimp only; omega⟩, by dsimp only; omega⟩
    refine .bind' (.eq (ix_nat hq) ?_)
    dsimp only
    have shorter : Ok (if decide ((k : Int) < (x.length : Int)) = true then Option.bind (ix x (k : Int)) fun p => if (p.2.Batch != q.Batch) = true then L.zznx.J5 (lvol (y.take k), (k : Int)) (k, q) true else if (p.2.Done != q.Done) = true then L.zznx.J5 (lvol (y.take k), (k : Int)) (k, q) true else L.zznx.J5 (lvol (y.take k), (k : Int)) (k, q) (decide (p.2.Volume > q.Volume)) else L.zznx.J5 (lvol (y.take k), (k : Int)) (k, q) false)
      (Sum.elim (fun st => (∃ k : Nat, st.2 = (k : Int) ∧ k ≤ y.length ∧ st.1 = lvol (y.take k)) ∧ y.length - st.2.toNat < y.length - (k : Int).toNat) (Sum.elim (fun _ : Bool => False) fun s : Int => s = lvol y)) := by
     refine Ok.iteD (fun h => ?_) fun _ => fin _ rfl
     obtain ⟨c, hc⟩ := get_of (l := x) (k := k) (by omega)
     obtain ⟨c1, c2, c3⟩ := hE.lots k c q hc hq
     refine .bind' (.eq (ix_nat hc) ?_)
     dsimp only
     rw [if_neg (by simp [c1]), if_neg (by simp [c2])]
     exact fin _ (by simp; omega)
    refine Ok.iteD (fun h0 => ?_) fun _ => shorter
    obtain ⟨k', rfl⟩ : ∃ k', k = k' + 1 := ⟨k - 1, by omega⟩
    obtain ⟨c, hc⟩ := get_of (l := y) (k := k') (by omega)
    obtain ⟨u1, u2⟩ := y3.up k' c q hc hq
    have ew : wr (((k' + 1 : Nat) : Int) - 1) = (k' : Int) := by rw [wr_id (by omega)]; omega
    rw [ew]
    refine .bind' (.eq (ix_nat hc) ?_)
    dsimp only
    rw [if_neg (by simp; omega), if_neg (by simp; exact Ne.symm u2)]
    exact shorter
   ·obtain rfl : k = y.length := by omega
    show lvol (y.take y.length) = lvol y
    rw [List.take_length]
  ·rintro (_ | s) hs
   ·exact hs.elim
   ·have hs' : s = lvol y := hs
    subst hs'
    show Ok (L.zznx.J2 a b (n, d1) (d4.L_, d4.At, fs, R, P, M, g) ((port : Int), d5) (x, 0) (y, 0) (lvol y)) _
    unfold L.zznx.J2
    dsimp only
    have hlen := hE.len
    rw [if_pos (by simp), if_pos (by simp), if_pos (by simp; omega)]
    refine .bind' (.eq (ix_nat hv) ?_)
    dsimp only
    rw [ek, wr_id (by omega : _ ≤ (0 : Int) - v ∧ _), show (0 : Int) - v = -v by omega, wr_id (by omega), y4, hAl, if_pos (by simp)]
    refine .bind' (.eq (check18_ok hn (check12 hn0) hf) ?_)
    rw [if_pos (by simp)]
    refine .bind' (.eq (ix_nat (k := 0) (hf.rp.get 0 (by omega))) (.bind' (.eq (valid14_ok (hf.vd 0 (by omega))) ?_)))
    rw [if_pos rfl, awake30]
    exact .pure rfl
 obtain ⟨r, h1, rfl⟩ := this
 exact h1
end Go.Proofs.YtaliejncdnegeaaGreat
namespace Go.Aw
set_option linter.unusedVariables false
set_option linter.unusedSimpArgs false
open Go.ChangeShapes Go.WideShapes Go.ChangeAt Go.RowKit
section
variable {H : Type} {enc : TypeId × Value → H} {P : Program}
theorem trodAll_below (hl : laidOutB P = true) {W W' : World} (hb : Below W.heap.size W W') : ∀ {ts : List TypeId} {vs : List Value} {ds : List (DataW H)} {ps : List MemPlace},
  (∀ t, t ∈ ts → P.readableRec t = true ∧ t < P.types.size) → (∀ x, x ∈ ps → x.block < W.heap.size) → DataW.TrodAll enc P W 0 (fun _ => true) true ts vs ds ps →
  DataW.TrodAll enc P W' 0 (fun b => decide (b < W.heap.size)) true ts vs ds ps
 | [], vs, ds, ps, _, _, h => by
  cases vs <;> cases ds <;> simp [DataW.TrodAll] at h ⊢
  exact h
 | t :: ts, vs, ds, ps, ht, hlt, h => by
  obtain ⟨v, vs', d, ds', p, q, rfl, rfl, rfl, h1, h2⟩ := trodAll_cons h
  have hr := ht t (by simp)
  exact ⟨p, q, Below.trod hl hr.1 hr.2 h1 hb (fun x hx => hlt x (by simp [hx])), trodAll_below hl hb (fun t ht' => ht t (by simp [ht'])) (fun x hx => hlt x (by simp [hx])) h2, rfl⟩
theorem law_post {f : Func} {s : ChangeSpec} {W W' : World} {args : Array Value} {ds : List (DataW H)} {p : List MemPlace} {t : TypeId} (hW : DataW.Whole enc P f.params.toList s.vars false W args.toList ds [] (p ++ []))
  (hA : DataW.TrodAll enc P W 0 (fun _ => true) true f.params.toList args.toList ds p)
  (hres : (s.fn H (ds ++ [])).results = [.lit (.bool true)]) (hargs : (s.fn H (ds ++ [])).args = ds) (hv : (s.fn H (ds ++ [])).vars = []) (hsv : s.vars = [])
  (hrt : f.resultTypes.toList = [t]) (hu : P.underlying t = some .bool) (hl : laidOutB P = true) (hall : ∀ t, t ∈ f.params.toList → P.readableRec t = true ∧ t < P.types.size)
  (hb : Below W.heap.size W W') : s.post enc P f false true false false W args (.bool true) W' := by
 have hlt : ∀ x, x ∈ p → x.block < W.heap.size := fun x hx => hW.lt x (by simp [hx])
 have hsz : f.resultTypes.size = 1 := by rw [← Array.length_toList, hrt]; rfl
 refine ⟨ds, [], p ++ [], [], p, [], hW, ?_, ?_, ?_, hb.frame _, fun h => by cases h⟩
 ·rw [hres, hrt, hsz]
  exact trodAll_mk1 (shut_bool hu true)
 ·rw [hargs]
  exact trodAll_below hl hb hall hlt hA
 ·rw [hv, hsv]; rfl
def encK (k : IntKind) (l : List Int) : T := .list 1 (l.map fun n => [.v (.int k n)])
theorem open_list {t e : TypeId} {k : IntKind} {W : World} {base : Nat} {r : Reach} {v : Value} {d : DataW H} {ps : List MemPlace} (ht : P.underlying t = some (.slice e)) (he : P.underlying e = some (.int k)) (hc : P.cellsOf e = 1)
  (hval : Value.okWide P W r base t v) (h : DataW.Trod enc P W 0 (fun _ => true) true t v d ps) :
  ∃ l : List Int, (l.length ≤ maxL → VR (fun b => W.heap[b]?) v (encK k l)) ∧ (∀ n, n ∈ l → (Lit.int k n).wf = true) ∧ (l = [] ∨ ∃ elems spare, d = .slice elems spare ∧ l.length = elems.length) := by
 obtain ⟨a0, len, cap, rfl⟩ := okWide_slice ht hval
 obtain ⟨fuel, hf⟩ := h
 rcases open_ints ht he hc hf with ⟨hcs, hx⟩ | ⟨a, len', cap', zs, hcs, _, hl, hm, hz, hx, hcell, hwz⟩
 ·simp [Value.cells] at hcs
  obtain ⟨rfl, rfl, rfl⟩ := hcs
  exact ⟨[], fun _ => .empty _ _ _, by simp, .inl rfl⟩
 ·simp [Value.cells] at hcs
  obtain ⟨rfl, rfl, rfl⟩ := hcs
  simp only [Prod.mk.injEq] at hx
  obtain ⟨rfl, rfl⟩ := hx
  simp only [if_true] at hz
  have hlt : (zs.take len).length = len := by simp; omega
  refine ⟨zs.take len, fun hmax => ?_, fun n hn => hwz n (List.mem_of_mem_take hn), .inr ⟨_, _, rfl, by simp [lits]⟩⟩
  by_cases hl0 : len = 0
  ·subst hl0; simp only [List.take_zero, encK, List.map_nil]; exact .empty _ _ _
  ·obtain ⟨b, off, spot⟩ := a
   have hspot : spot = none := by simpa [Addr.add] using World.cell?_spot (hcell 0 (by omega))
   subst hspot
   have hcell' : ∀ i, i < zs.length → W.cell? ⟨b, off + i, none⟩ = some (.int k (zs.getD i 0)) := fun i hi => by rw [← Addr.add_mk]; exact hcell i hi
   have hc0 := hcell' 0 (by omega)
   have hcs : ∃ cs ty fr, W.heap[b]? = some (.cells cs ty fr) := by
    unfold World.cell? at hc0
    split at hc0
    ·rename_i c ty fr hh; exact ⟨_, _, _, hh⟩
    ·cases hc0
   obtain ⟨cs, ty, fr, hh⟩ := hcs
   have hcs' : ∀ i, i < zs.length → cs[off + i]? = some (.int k (zs.getD i 0)) := fun i hi => by
    have := hcell' i hi
    simpa [World.cell?, hh] using this
   have hlen : ((zs.take len).map fun n => [T.v (.int k n)]).length = len := by rw [List.length_map, hlt]
   have hbig : off + len ≤ cs.size := by
    have := (Array.getElem?_eq_some_iff.1 (hcs' (len - 1) (by omega))).1
    omega
   have hgd : ∀ i e, ((zs.take len).map fun n => [T.v (.int k n)])[i]? = some e → ∀ (j : Nat) (x : T), e[j]? = some x → j = 0 ∧ x = .v (.int k (zs.getD i 0)) ∧ cs.getD (off + i * 1 + j) undef = .int k (zs.getD i 0) := by
    intro i e he j x hx
    simp only [List.getElem?_map, Option.map_eq_some_iff] at he
    obtain ⟨n, hn, rfl⟩ := he
    have hil := (List.getElem?_eq_some_iff.1 hn).1
    rw [hlt] at hil
    rw [List.getElem?_take_of_lt hil] at hn
    have hj : j = 0 := by have := (List.getElem?_eq_some_iff.1 hx).1; simp at this; exact this
    subst hj
    simp at hx
    have hzi : zs.getD i 0 = n := by simp [List.getD, hn]
    refine ⟨rfl, by rw [hzi]; exact hx.symm, ?_⟩
    rw [Array.getD_eq_getD_getElem?, show off + i * 1 + 0 = off + i by omega, hcs' i (by omega)]; rfl
   have := VR.list (H := fun b => W.heap[b]?) b off cap 1 ((zs.take len).map fun n => [T.v (.int k n)]) cs ty fr hh (by rw [hlen]; exact hl) (by rw [List.length_map]; exact hmax) (by rw [hlen]; omega)
    (fun i e he => by simp only [List.getElem?_map, Option.map_eq_some_iff] at he; obtain ⟨n, _, rfl⟩ := he; rfl)
    (fun i e he j x hx => by rw [(hgd i e he j x hx).2.2]; rfl) (fun i e he j x hx => by rw [(hgd i e he j x hx).2.2, (hgd i e he j x hx).2.1]; exact .v _)
   rw [hlen] at this
   exact this
end
theorem wf_u8 {n : Int} (h : (Lit.int .u8 n).wf = true) : 0 ≤ n ∧ n ≤ 255 := by
 have h1 : IntKind.u8.min = 0 := rfl
 have h2 : IntKind.u8.max = 255 := rfl
 simp only [Lit.wf, Bool.and_eq_true, decide_eq_true_eq] at h
 omega
theorem law_calls {E : Env} {f : FuncId} {xs : List T} {W : World} {args : Array Value} (hgl : Held fun b => W.heap[b]?) (hc : ACalls E f xs [] fun x _ => x = .v (.bool true)) (hsz : args.size = xs.length)
  (hv : ∀ (i : Nat) (x : T), xs[i]? = some x → VR (fun b => W.heap[b]?) (args.getD i undef) x) : Calls E.P f args W fun e W' => e = .returned (.bool true) ∧ Below W.heap.size W W' := by
 refine (hc.2 (fun b => W.heap[b]?) W args hsz hv ⟨fun _ _ h => h, hgl⟩ (by simp) (by simp)).mono ?_
 rintro e w' ⟨v, x, fp', H', rfl, rfl, hvr, _, _, _, _, hs, ⟨e1, e2, e3⟩, hfr⟩
 refine ⟨by rw [hvr.v_eq], ⟨e1, e2, e3, hs, fun k hk => (hfr k hk (by simp)).1⟩⟩
end Go.Aw
