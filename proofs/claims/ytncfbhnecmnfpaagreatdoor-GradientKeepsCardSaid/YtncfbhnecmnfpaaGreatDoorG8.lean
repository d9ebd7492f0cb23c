/- There and back along a segment, and along its level image: the parts and their sums. No condition. -/
import Derived.Test.YtncfbhnecmnfpaaGreatDoorG7
namespace Go.Proofs.YtncfbhnecmnfpaaGreatDoor
set_option linter.unusedVariables false
set_option linter.unusedSimpArgs false
open Go.Aw

theorem sumV_mono {f : List Piece} (h : ∀ p, p ∈ f → 1 ≤ p.Volume) {i j : Nat} (hij : i ≤ j) : sumV (f.take i) ≤ sumV (f.take j) := by
  have := (sumV_le_take (l := f.take j) (fun p hp => h p (List.mem_of_mem_take hp)) i).2
  rwa [List.take_take, Nat.min_eq_left hij] at this
theorem cut_uniq {f : List Piece} (h : ∀ p, p ∈ f → 1 ≤ p.Volume) {b : Int} {k k' : Nat} (h1 : sumV (f.take k) < b) (h2 : b ≤ sumV (f.take (k + 1))) (h3 : sumV (f.take k') < b) (h4 : b ≤ sumV (f.take (k' + 1))) : k = k' := by
  rcases Nat.lt_trichotomy k k' with hk | hk | hk
  · have := sumV_mono h (show k + 1 ≤ k' from hk); omega
  · exact hk
  · have := sumV_mono h (show k' + 1 ≤ k from hk); omega
theorem point_uniq {pts : List Point} (ha : Asc pts) {b : Int} {p p' : Nat} {u v u' v' : Point} (h1 : pts[p]? = some u) (h2 : pts[p + 1]? = some v) (h3 : pts[p']? = some u') (h4 : pts[p' + 1]? = some v')
    (b1 : u.At < b) (b2 : b ≤ v.At) (b3 : u'.At < b) (b4 : b ≤ v'.At) : p = p' := by
  have key : ∀ {p p' : Nat} {v u' : Point}, pts[p + 1]? = some v → pts[p']? = some u' → b ≤ v.At → u'.At < b → p < p' → False := by
    intro p p' v u' h2 h3 b2 b3 hp
    rcases Nat.lt_or_ge (p + 1) p' with h | h
    · have := ha _ _ _ _ h h2 h3; omega
    · have : p' = p + 1 := by omega
      subst this
      rw [h2] at h3; cases h3; omega
  rcases Nat.lt_trichotomy p p' with hk | hk | hk
  · exact (key h2 h3 b2 b3 hk).elim
  · exact hk
  · exact (key h4 h1 b4 b1 hk).elim

theorem PointsOk.map {cap : Int} {l : List Point} (h : PointsOk cap l) {g : Point → Point} (hA : ∀ p, (g p).At = p.At) (hH : ∀ p, p ∈ l → -500 ≤ (g p).Height ∧ (g p).Height ≤ 5000)
    (hL : ∀ p, p ∈ l → 0 ≤ (g p).Limit ∧ (g p).Limit ≤ 100000000) : PointsOk cap (l.map g) := by
  have hget : ∀ {i : Nat} {p : Point}, (l.map g)[i]? = some p → ∃ q, l[i]? = some q ∧ g q = p := fun {i p} hi => by simpa using hi
  have hmem : ∀ {p : Point}, p ∈ l.map g → ∃ q, q ∈ l ∧ g q = p := fun {p} hi => by simpa using hi
  refine ⟨by rw [List.length_map]; exact h.len, fun p hp => ?_, fun p hp => ?_, fun i p q hp hq => ?_, fun p hp => ?_, fun p hp => ?_⟩
  · obtain ⟨q, h1, rfl⟩ := hget hp
    rw [hA]; exact h.first q h1
  · rw [List.length_map] at hp
    obtain ⟨q, h1, rfl⟩ := hget hp
    rw [hA]; exact h.last q h1
  · obtain ⟨q1, h1, rfl⟩ := hget hp
    obtain ⟨q2, h2, rfl⟩ := hget hq
    rw [hA, hA]; exact h.up i q1 q2 h1 h2
  · obtain ⟨q, h1, rfl⟩ := hmem hp
    exact hH q h1
  · obtain ⟨q, h1, rfl⟩ := hmem hp
    exact hL q h1

def level (h : Int) (p : Point) : Point := { p with Height := h }
def levelS (h : Int) (s : Segment) : Segment := { s with Points := s.Points.map (level h) }
theorem levelS_brk (h : Int) (s : Segment) (f : List Piece) : brk (levelS h s) f = brk s f := by
  unfold brk levelS
  rw [show (s.Points.map (level h)).map (·.At) = s.Points.map (·.At) by rw [List.map_map]; rfl]
theorem levelS_ok {h : Int} (hh : -500 ≤ h ∧ h ≤ 5000) {s : Segment} (hs : SegG s) : SegG (levelS h s) :=
  ⟨hs.name, hs.cap, hs.resist, hs.wave, hs.points.map (fun _ => rfl) (fun _ _ => hh) hs.points.limit⟩
theorem IsPart.flat {h : Int} {s : Segment} {f : List Piece} {l : List Product} {i : Nat} {x y : gradient_part} (hs : SegG s) (hf : FillOk s.Capacity f) (hx : IsPart s f l i x) (hy : IsPart (levelS h s) f l i y) : y = flat x := by
  obtain ⟨a, b, p, u, v, k, y0, h1, h2, h3, h4, h5, h6, h7, h8, h9, h10, rfl⟩ := hx
  obtain ⟨a', b', p', u', v', k', y1, g1, g2, g3, g4, g5, g6, g7, g8, g9, g10, rfl⟩ := hy
  rw [levelS_brk, h1] at g1; cases g1
  rw [levelS_brk, h2] at g2; cases g2
  obtain ⟨u1, e3, rfl⟩ : ∃ u1, s.Points[p']? = some u1 ∧ level h u1 = u' := by simpa [levelS] using g3
  obtain ⟨v1, e4, rfl⟩ : ∃ v1, s.Points[p' + 1]? = some v1 ∧ level h v1 = v' := by simpa [levelS] using g4
  obtain rfl := point_uniq hs.points.asc h3 h4 e3 e4 h5 h6 g5 g6
  rw [h3] at e3; cases e3
  rw [h4] at e4; cases e4
  obtain rfl := cut_uniq (fun p hp => hf.vol p hp) h7 h8 g7 g8
  rw [h10] at g10; cases g10
  simp [level, Go.Proofs.YtncfbhnecmnfpaaGreatDoor.flat]
theorem parts_flat {h : Int} {s : Segment} {f : List Piece} {l : List Product} {W V : List gradient_part} (hs : SegG s) (hf : FillOk s.Capacity f) (hW : Parts s f l W) (hV : Parts (levelS h s) f l V) : V = W.map flat := by
  have hl : V.length = W.length := by have := hW.len; have := hV.len; rw [levelS_brk] at this; omega
  apply List.ext_getElem?
  intro i
  by_cases hi : i < W.length
  · have h1 : W[i]? = some (W[i]'hi) := List.getElem?_eq_getElem _
    have h2 : V[i]? = some (V[i]'(by omega)) := List.getElem?_eq_getElem _
    rw [h2, List.getElem?_map, h1, (hW.all _ _ h1).flat hs hf (hV.all _ _ h2)]; rfl
  · rw [List.getElem?_eq_none (by omega), List.getElem?_eq_none (by simp; omega)]

theorem frA_flat (h : Int) (s : Segment) (q : Int) (x : gradient_part) : frA (levelS h s) q (flat x) = frA s q x := rfl
theorem frA_neg (s : Segment) (q : Int) (x : gradient_part) : frA s q (neg x) = frA s q x := rfl
/-- What a part costs there, back, and on level ground. -/
theorem turn_bd {h : Int} {s : Segment} (hc : 1 ≤ s.Capacity) {q : Int} {x : gradient_part} (hx : PartOk s x) :
    2 * lo (levelS h s) q (flat x) ≤ hi s q x + hi s q (neg x) ∧ lo s q x + lo s q (neg x) ≤ 2 * hi (levelS h s) q (flat x) ∧
    2 * lo (levelS h s) q (flat x) ≤ lo s q x + lo s q (neg x) + 1 ∧ hi s q x + hi s q (neg x) ≤ 2 * hi (levelS h s) q (flat x) + 1 := by
  have b1 : 0 < frB s := by unfold frB; omega
  have b2 : 0 < liB x := by unfold liB; have := hx.width; omega
  have d1 := dn_up (a := frA s q x) b1
  have d2 := dn_up (a := liA x) b2
  unfold lo hi
  rw [frA_flat, frA_neg, liA_flat, liA_neg, dn_zero, up_zero]
  rw [show frB (levelS h s) = frB s from rfl, show liB (neg x) = liB x from rfl, dn_neg b2, up_neg b2]
  omega

end Go.Proofs.YtncfbhnecmnfpaaGreatDoor
