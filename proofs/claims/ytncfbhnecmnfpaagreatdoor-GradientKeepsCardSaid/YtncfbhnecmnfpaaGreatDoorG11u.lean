/- Ascending lists with the same members are the same. No condition. -/
import Derived.Test.YtncfbhnecmnfpaaGreatDoorG10
namespace Go.Proofs.YtncfbhnecmnfpaaGreatDoor

theorem up_uniq : ∀ {l m : List Int}, l.Pairwise (· < ·) → m.Pairwise (· < ·) → (∀ x, x ∈ l ↔ x ∈ m) → l = m
  | [], [], _, _, _ => rfl
  | [], b :: m, _, _, h => by have := (h b).2 (by simp); simp at this
  | a :: l, [], _, _, h => by have := (h a).1 (by simp); simp at this
  | a :: l, b :: m, hl, hm, h => by
    have la := (List.pairwise_cons.1 hl).1
    have mb := (List.pairwise_cons.1 hm).1
    have hab : a = b := by
      have h1 := (h a).1 (by simp)
      have h2 := (h b).2 (by simp)
      rcases List.mem_cons.1 h1 with h1 | h1
      · exact h1
      · rcases List.mem_cons.1 h2 with h2 | h2
        · exact h2.symm
        · have := mb a h1; have := la b h2; omega
    subst hab
    rw [up_uniq (List.pairwise_cons.1 hl).2 (List.pairwise_cons.1 hm).2 fun x => ?_]
    constructor
    · intro hx
      have := la x hx
      rcases List.mem_cons.1 ((h x).1 (by simp [hx])) with e | e
      · omega
      · exact e
    · intro hx
      have := mb x hx
      rcases List.mem_cons.1 ((h x).2 (by simp [hx])) with e | e
      · omega
      · exact e

end Go.Proofs.YtncfbhnecmnfpaaGreatDoor
