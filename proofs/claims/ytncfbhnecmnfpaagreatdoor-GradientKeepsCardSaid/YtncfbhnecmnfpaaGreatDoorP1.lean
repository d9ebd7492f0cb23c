/- The numbers that a reader of numbers gives, and valid segments and networks. No condition. -/
import Derived.Test.YtncfbhnecmnfpaaGreatDoorPlDot
import Derived.Test.YtncfbhnecmnfpaaGreatDoorPlUnion
import Derived.Test.YtncfbhnecmnfpaaGreatDoorD
namespace Go.Proofs.YtncfbhnecmnfpaaGreatDoor
set_option linter.unusedVariables false
set_option linter.unusedSimpArgs false
open Go.Aw

abbrev Src := batchlinekeep_Src

/-- What a reader of numbers keeps. -/
structure SrcOk (s : Src) : Prop where
  at0 : 0 ≤ s.At
  at1 : s.At ≤ (s.L_.length : Int)
  len : s.L_.length ≤ 2000

theorem SrcOk.eta {s : Src} (h : SrcOk s) : SrcOk ⟨s.L_, s.At⟩ := h

theorem Ok.iteD {α : Type} {c : Prop} [Decidable c] {a b : Option α} {P : α → Prop} (h1 : c → Ok a P) (h2 : ¬ c → Ok b P) : Ok (if decide c = true then a else b) P := by
  by_cases hc : c
  · rw [if_pos (by simp [hc])]; exact h1 hc
  · rw [if_neg (by simp [hc])]; exact h2 hc
theorem Ok.iteB {α : Type} {c : Bool} {a b : Option α} {P : α → Prop} (h1 : c = true → Ok a P) (h2 : c = false → Ok b P) : Ok (if c = true then a else b) P := by
  cases c
  · rw [if_neg (by simp)]; exact h2 rfl
  · rw [if_pos rfl]; exact h1 rfl
theorem Ok.iteN {α : Type} {c : Bool} {a b : Option α} {P : α → Prop} (h1 : c = false → Ok a P) (h2 : c = true → Ok b P) : Ok (if (!c) = true then a else b) P := by
  cases c
  · exact h1 rfl
  · exact h2 rfl
theorem Ok.iteE {α : Type} {x y : Int} {a b : Option α} {P : α → Prop} (h1 : x = y → Ok a P) (h2 : x ≠ y → Ok b P) : Ok (if (x == y) = true then a else b) P := by
  by_cases h : x = y
  · rw [if_pos (by simp [h])]; exact h1 h
  · rw [if_neg (by simp [h])]; exact h2 h
theorem Ok.iteU {α : Type} {x y : Int} {a b : Option α} {P : α → Prop} (h1 : x ≠ y → Ok a P) (h2 : x = y → Ok b P) : Ok (if (x != y) = true then a else b) P := by
  by_cases h : x = y
  · rw [if_neg (by simp [h])]; exact h2 h
  · rw [if_pos (by simp [h])]; exact h1 h

theorem mod_ok (x : Int) {n : Int} (h1 : 1 ≤ n) (h2 : n ≤ 9223372036854775807) : Ok (L.keep_Mod x n) fun r => 0 ≤ r ∧ r < n := by
  unfold L.keep_Mod L.keep_Mod.J1
  have ha := Int.tmod_lt_of_pos x (show 0 < n by omega)
  have hb : -n < x.tmod n := by
    have := Int.tmod_lt_of_pos (-x) (show 0 < n by omega)
    rw [Int.neg_tmod] at this; omega
  refine Ok.iteD (fun h => by omega) fun _ => .bind' (.rem (by omega) ?_)
  refine Ok.iteD (fun h => .pure ?_) (fun h => .pure ?_)
  · rw [wr_id (by omega)]; omega
  · omega

theorem new_ok (l : List Int) : Ok (L.keep_New l) SrcOk := by
  unfold L.keep_New
  refine .bind' (.sub 0 (min l.length 2000) rfl (by omega) (by omega) (by omega) (.pure ?_))
  exact ⟨Int.le_refl _, by simp, by simp; omega⟩

theorem raw_ok {s : Src} (h : SrcOk s) : Ok (L.keep_Src_Raw s) fun r => SrcOk r.2 := by
  obtain ⟨h1, h2, h3⟩ := h
  unfold L.keep_Src_Raw
  refine Ok.iteD (fun _ => .pure ⟨h1, h2, h3⟩) fun h => ?_
  simp (disch := omega) only [wr_id]
  refine .bind' (.ix' (by omega) (by omega) fun k x _ _ => .pure ⟨by dsimp only; omega, by dsimp only; omega, h3⟩)

theorem n_ok {s : Src} (h : SrcOk s) {n : Int} (h1 : 1 ≤ n) (h2 : n ≤ 9223372036854775807) : Ok (L.keep_Src_N s n) fun r => SrcOk r.2 ∧ 0 ≤ r.1 ∧ r.1 < n := by
  unfold L.keep_Src_N
  exact .bind (raw_ok h) fun x hx => .bind (mod_ok _ h1 h2) fun y hy => .pure ⟨hx, hy⟩

theorem range_ok {s : Src} (h : SrcOk s) {lo hi : Int} (h1 : lo ≤ hi) (h2 : -1000000000 ≤ lo) (h3 : hi ≤ 1000000000) : Ok (L.keep_Src_Range s lo hi) fun r => SrcOk r.2 ∧ lo ≤ r.1 ∧ r.1 ≤ hi := by
  unfold L.keep_Src_Range
  simp (disch := omega) only [wr_id]
  refine .bind (n_ok h (by omega) (by omega)) fun x hx => .pure ⟨hx.1, ?_⟩
  dsimp only
  rw [wr_id (by omega)]; omega

theorem pick_ok {s : Src} (h : SrcOk s) {l : List Int} (h1 : 1 ≤ l.length) (h2 : l.length ≤ 1000) : Ok (L.keep_Src_Pick s l) fun r => SrcOk r.2 ∧ r.1 ∈ l := by
  unfold L.keep_Src_Pick
  refine .bind (n_ok h (by omega) (by omega)) fun x hx => .bind' (.ix' hx.2.1 hx.2.2 fun k y _ hy => .pure ⟨hx.1, List.mem_of_getElem? hy⟩)

/-- The name with a first letter and a number. -/
def nm (c : UInt8) (k : Nat) : ByteArray := ⟨#[c, 97 + UInt8.ofNat k]⟩

theorem name_ok {c : UInt8} {k : Nat} (hk : k < 26) : L.keep_name ⟨#[c]⟩ (k : Int) = some (nm c k) := by
  unfold L.keep_name
  have hm : ((k : Int).tmod 26) = (k : Int) := by rw [Int.tmod_eq_emod_of_nonneg (by omega)]; omega
  rw [hm, wr_id (by omega)]
  have : k = 0 ∨ k = 1 ∨ k = 2 ∨ k = 3 ∨ k = 4 ∨ k = 5 ∨ k = 6 ∨ k = 7 ∨ k = 8 ∨ k = 9 ∨ k = 10 ∨ k = 11 ∨ k = 12 ∨ k = 13 ∨ k = 14 ∨ k = 15 ∨ k = 16 ∨ k = 17 ∨ k = 18 ∨ k = 19 ∨ k = 20 ∨ k = 21 ∨ k = 22 ∨ k = 23 ∨ k = 24 ∨ k = 25 := by omega
  rcases this with rfl | rfl | rfl | rfl | rfl | rfl | rfl | rfl | rfl | rfl | rfl | rfl | rfl | rfl | rfl | rfl | rfl | rfl | rfl | rfl | rfl | rfl | rfl | rfl | rfl | rfl <;> rfl

/-- Points of a valid segment. -/
structure PointsOk (cap : Int) (l : List Point) : Prop where
  len : 2 ≤ l.length ∧ l.length ≤ 8
  first : ∀ p, l[0]? = some p → p.At = 0
  last : ∀ p, l[l.length - 1]? = some p → p.At = cap
  up : ∀ i p q, l[i]? = some p → l[i + 1]? = some q → p.At < q.At
  height : ∀ p, p ∈ l → -500 ≤ p.Height ∧ p.Height ≤ 5000
  limit : ∀ p, p ∈ l → 0 ≤ p.Limit ∧ p.Limit ≤ 100000000

/-- A valid segment with a number, in a network with so many nodes. -/
structure SegOk (nodes k : Nat) (s : Segment) : Prop where
  name : s.Name = nm 103 k
  ends : 0 ≤ s.From ∧ s.From < (nodes : Int) ∧ 0 ≤ s.To ∧ s.To < (nodes : Int) ∧ s.From ≠ s.To
  cap : 1 ≤ s.Capacity ∧ s.Capacity ≤ 1000
  resist : 0 ≤ s.Resist ∧ s.Resist ≤ 1000
  wave : 0 ≤ s.Wave ∧ s.Wave ≤ 100000
  points : PointsOk s.Capacity s.Points

structure PortOk (nodes k : Nat) (p : Port) : Prop where
  name : p.Name = nm 113 k
  node : 0 ≤ p.Node ∧ p.Node < (nodes : Int)
  pressure : 0 ≤ p.Pressure ∧ p.Pressure ≤ 5000000

structure StOk (nodes k : Nat) (p : Station) : Prop where
  name : p.Name = nm 115 k
  node : 0 ≤ p.Node ∧ p.Node < (nodes : Int)
  head : 0 ≤ p.Head ∧ p.Head ≤ 2000000
  fall : 0 ≤ p.Fall ∧ p.Fall ≤ 100000
  suction : 0 ≤ p.Suction ∧ p.Suction ≤ 400000

/-- A valid network. -/
structure NetOk (n : Network) : Prop where
  nodes : 2 ≤ n.Nodes.length ∧ n.Nodes.length ≤ 6
  names : ∀ k x, n.Nodes[k]? = some x → x = nm 110 k
  segs1 : n.Nodes.length - 1 ≤ n.Segments.length ∧ n.Segments.length ≤ 8
  segs : ∀ k s, n.Segments[k]? = some s → SegOk n.Nodes.length k s
  ports1 : 2 ≤ n.Ports.length ∧ n.Ports.length ≤ 6
  ports : ∀ k s, n.Ports[k]? = some s → PortOk n.Nodes.length k s
  portsUp : ∀ (i j : Nat) (p q : Port), i < j → n.Ports[i]? = some p → n.Ports[j]? = some q → p.Node < q.Node
  sts1 : n.Stations.length ≤ 6
  sts : ∀ k s, n.Stations[k]? = some s → StOk n.Nodes.length k s
  stsUp : ∀ (i j : Nat) (p q : Station), i < j → n.Stations[i]? = some p → n.Stations[j]? = some q → p.Node < q.Node
  vapour : -100000 ≤ n.Vapour ∧ n.Vapour ≤ 50000
  settle : 0 ≤ n.Settle ∧ n.Settle ≤ 100

end Go.Proofs.YtncfbhnecmnfpaaGreatDoor
