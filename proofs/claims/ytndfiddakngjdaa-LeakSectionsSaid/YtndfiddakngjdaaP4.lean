/- The plans that a reader of numbers gives are balanced. No condition. -/
import Derived.Test.YtndfiddakngjdaaP3
namespace Go.Proofs.Ytndfiddakngjdaa
set_option linter.unusedVariables false
set_option linter.unusedSimpArgs false
open Go.Aw

def ind (a v : Int) : Int := if a = v then 1 else 0
/-- What a rate of each segment brings to a node. -/
def wt (n : Network) (v : Int) : List Int := n.Segments.map fun s => ind s.To v - ind s.From v
def wp (n : Network) (v : Int) : List Int := n.Ports.map fun p => ind p.Node v

structure RateOk (s : Segment) (r : Int) : Prop where
  rng : -1000 ≤ r ∧ r ≤ 1000 ∧ -s.Capacity ≤ r ∧ r ≤ s.Capacity
  up : s.From < s.To → 0 ≤ r
  down : s.To < s.From → r ≤ 0

structure PlInv (n : Network) (rates ports : List Int) : Prop where
  rl : rates.length = n.Segments.length
  pl : ports.length = n.Ports.length
  rng : ∀ (k : Nat) (r : Int) (s : Segment), rates[k]? = some r → n.Segments[k]? = some s → RateOk s r
  prt : ∀ (k : Nat) (x : Int), ports[k]? = some x → -1000 ≤ x ∧ x ≤ 1000
  bal : ∀ v, dot (wt n v) rates + dot (wp n v) ports = 0

/-- A hop of a way. -/
structure Hop1 (n : Network) (rates : List Int) (rate a : Int) (i : Nat) (x : Segment) (r b : Int) : Prop where
  seg : n.Segments[i]? = some x
  old : rates[i]? = some r
  lt : a < b
  ends : x.From = a ∧ x.To = b ∨ x.To = a ∧ x.From = b
  rng : r + rate ≤ 1000 ∧ rate - r ≤ 1000 ∧ r + rate ≤ x.Capacity ∧ rate - r ≤ x.Capacity

def HopAt (n : Network) (rates : List Int) (rate a k b : Int) : Prop := ∃ (i : Nat) (x : Segment) (r : Int), k = (i : Int) ∧ Hop1 n rates rate a i x r b

theorem carry_ok {n : Network} {rates ports way : List Int} {rate : Int} {s : Src} {l : List Int} {q e : Int} {nd : Nat → Int} (h : PlInv n rates ports) (hr : 1 ≤ rate ∧ rate ≤ 300)
    (hw : ∀ (j : Nat) (k : Int), way[j]? = some k → HopAt n rates rate (nd j) k (nd (j + 1))) :
    Ok (forJ (L.keep_Src_Plan.B9 n (rate, s) (l, q, way, e)) 0 way.length rates) fun st => st.length = rates.length ∧ (∀ (k : Nat) (r : Int) (s : Segment), st[k]? = some r → n.Segments[k]? = some s → RateOk s r) ∧
      ∀ v, dot (wt n v) st = dot (wt n v) rates + (rate * ind (nd way.length) v - rate * ind (nd 0) v) := by
  refine .forJ (fun j st => st.length = rates.length ∧ (∀ (k : Nat) (r : Int) (s : Segment), st[k]? = some r → n.Segments[k]? = some s → RateOk s r) ∧
      (∀ (k : Nat) (s : Segment), n.Segments[k]? = some s → nd j ≤ s.From → nd j ≤ s.To → st[k]? = rates[k]?) ∧
      ∀ v, dot (wt n v) st = dot (wt n v) rates + (rate * ind (nd j) v - rate * ind (nd 0) v)) ⟨rfl, h.rng, fun _ _ _ _ _ => rfl, fun v => by omega⟩ ?_ fun st ⟨h1, h2, _, h4⟩ => ⟨h1, h2, h4⟩
  rintro j st hj ⟨h1, h2, h3, h4⟩
  obtain ⟨i, x, r, hk, hs, hold, hlt, hends, hrng⟩ := hw j way[j] (List.getElem?_eq_getElem hj)
  have hil := (List.getElem?_eq_some_iff.1 hs).1
  have hst : st[i]? = some r := by
    rw [h3 i x hs (by rcases hends with h | h <;> omega) (by rcases hends with h | h <;> omega)]; exact hold
  have hok := h.rng i r x hold hs
  have o1 := hok.rng; have o2 := hok.up; have o3 := hok.down
  have hw : ∀ v, (wt n v)[i]? = some (ind x.To v - ind x.From v) := fun v => by unfold wt; rw [List.getElem?_map, hs]; rfl
  have fin : ∀ y : Int, RateOk x y → (∀ v, (ind x.To v - ind x.From v) * (y - r) = rate * ind (nd (j + 1)) v - rate * ind (nd j) v) → Ok (L.keep_Src_Plan.J10 (st.set i y)) fun st => st.length = rates.length ∧ (∀ (k : Nat) (r : Int) (s : Segment), st[k]? = some r → n.Segments[k]? = some s → RateOk s r) ∧
      (∀ (k : Nat) (s : Segment), n.Segments[k]? = some s → nd (j + 1) ≤ s.From → nd (j + 1) ≤ s.To → st[k]? = rates[k]?) ∧
      ∀ v, dot (wt n v) st = dot (wt n v) rates + (rate * ind (nd (j + 1)) v - rate * ind (nd 0) v) := by
    intro y hy hyv
    unfold L.keep_Src_Plan.J10
    refine .pure ⟨by simp [h1], fun k r' s' hk' hs' => ?_, fun k s' hs' a1 a2 => ?_, fun v => ?_⟩
    · rw [get_set] at hk'
      split at hk'
      · rename_i hik
        obtain ⟨rfl, _⟩ := hik
        simp at hk'; subst hk'
        rw [hs] at hs'; simp at hs'; subst hs'; exact hy
      · exact h2 k r' s' hk' hs'
    · have hne : i ≠ k := by
        rintro rfl
        rw [hs] at hs'; simp at hs'; subst hs'
        rcases hends with h | h <;> omega
      rw [List.getElem?_set_ne hne]
      exact h3 k s' hs' (by omega) (by omega)
    · rw [dot_set (hw v) hst, h4 v, hyv v]; omega
  unfold L.keep_Src_Plan.B9
  refine .bind' (.ix j rfl hj ?_)
  dsimp only
  rw [hk]
  refine .bind' (.ix i rfl hil ?_)
  have hx : n.Segments[i] = x := by
    have := List.getElem?_eq_getElem hil
    rw [hs] at this; exact (Option.some.inj this).symm
  have hil2 := (List.getElem?_eq_some_iff.1 hst).1
  have hsr : st[i] = r := by
    have := List.getElem?_eq_getElem hil2
    rw [hst] at this; exact (Option.some.inj this).symm
  dsimp only
  rw [hx]
  refine Ok.iteD (fun hft => ?_) fun hft => ?_
  · refine .bind' (.ix i rfl hil2 ?_)
    dsimp only
    rw [hsr, wr_id (by omega)]
    have he : x.From = nd j ∧ x.To = nd (j + 1) := by rcases hends with h | h <;> omega
    have := o2 hft
    refine fin _ ⟨by omega, fun _ => by omega, fun _ => by omega⟩ fun v => ?_
    rw [he.1, he.2, show r + rate - r = rate by omega, Int.sub_mul, Int.mul_comm, Int.mul_comm (ind (nd j) v)]
  · refine .bind' (.ix i rfl hil2 ?_)
    dsimp only
    rw [hsr, wr_id (by omega)]
    have he : x.To = nd j ∧ x.From = nd (j + 1) := by rcases hends with h | h <;> omega
    have := o3 (by omega)
    refine fin _ ⟨by omega, fun _ => by omega, fun _ => by omega⟩ fun v => ?_
    rw [he.1, he.2, show r - rate - r = -rate by omega, Int.sub_mul, Int.mul_neg, Int.mul_neg, Int.mul_comm, Int.mul_comm (ind (nd (j + 1)) v)]; omega

end Go.Proofs.Ytndfiddakngjdaa
