/- Maps as lists of entries: numbers with what stands for them; sets of numbers, and their groups. No condition. -/
import Derived.Test.YtndfiddakngjdaaPlBase
import Derived.Test.YtndfiddakngjdaaBwMap
namespace Go.Proofs.Ytndfiddakngjdaa
set_option linter.unusedVariables false
set_option linter.unusedSimpArgs false
open Go.Aw

theorem mget_map {α : Type} (f : Nat → α) : ∀ (l : List Nat) (k : Nat), mget (l.map fun (j : Nat) => ((j : Int), f j)) (k : Int) = if k ∈ l then some (f k) else none
  | [], k => by simp [mget]
  | j :: l, k => by
    simp only [List.map_cons, mget, mget_map f l k, List.mem_cons]
    by_cases h : j = k
    · subst h; simp
    · have h1 : ¬ ((j : Int) = (k : Int)) := by omega
      have h2 : ¬ (k = j) := fun e => h e.symm
      simp [h1, h2]

/-- The map of the first numbers. -/
def enu (n : Nat) (ρ : Nat → Nat) : List (Int × Int) := (List.range n).map fun (k : Nat) => ((k : Int), (ρ k : Int))
theorem mget_enu {n k : Nat} {ρ : Nat → Nat} (h : k < n) : mget (enu n ρ) (k : Int) = some (ρ k : Int) := by
  unfold enu; rw [mget_map (fun k => (ρ k : Int))]; simp [h]
theorem mget_enu_no {n k : Nat} {ρ : Nat → Nat} (h : n ≤ k) : mget (enu n ρ) (k : Int) = none := by
  unfold enu; rw [mget_map (fun k => (ρ k : Int))]; simp; omega
theorem enu_fst (n : Nat) (ρ : Nat → Nat) : ((enu n ρ).map Prod.fst).Nodup := by
  unfold enu
  rw [List.map_map]
  exact List.Pairwise.map _ (fun a b h => by simp; omega) (List.nodup_range (n := n))
theorem enu_congr {n : Nat} {ρ ρ' : Nat → Nat} (h : ∀ k, k < n → ρ k = ρ' k) : enu n ρ = enu n ρ' := by
  unfold enu
  exact List.map_congr_left fun k hk => by rw [h k (by simpa using hk)]
theorem mput_enu {n : Nat} {ρ : Nat → Nat} : mput (enu n ρ) (n : Int) (n : Int) = enu (n + 1) (fun k => if k = n then n else ρ k) := by
  unfold mput
  rw [mget_enu_no (Nat.le_refl _)]
  simp only [Option.isSome_none, Bool.false_eq_true, if_false]
  unfold enu
  rw [List.range_succ, List.map_append]
  congr 1
  · exact List.map_congr_left fun k hk => by have : k ≠ n := by simp at hk; omega
                                             simp [this]
  · simp
/-- Two of them joined. -/
def jn2 (a b : Nat) (ρ : Nat → Nat) : Nat → Nat := fun k => if ρ k = a ∨ ρ k = b then min a b else ρ k
theorem enu_join {n a b : Nat} {ρ : Nat → Nat} : ((enu n ρ).map fun kx => (kx.1, if (kx.2 == (a : Int) || kx.2 == (b : Int)) = true then min (a : Int) (b : Int) else kx.2)) = enu n (jn2 a b ρ) := by
  unfold enu jn2
  rw [List.map_map]
  refine List.map_congr_left fun k _ => ?_
  simp only [Function.comp, Bool.or_eq_true, beq_iff_eq, Prod.mk.injEq, true_and]
  by_cases h1 : ρ k = a
  · simp [h1]; omega
  · by_cases h2 : ρ k = b
    · simp [h2]; omega
    · have h3 : ¬ ((ρ k : Int) = (a : Int)) := by omega
      have h4 : ¬ ((ρ k : Int) = (b : Int)) := by omega
      simp [h1, h2, h3, h4]
theorem jn2_eq {a b : Nat} {ρ : Nat → Nat} {x y : Nat} (h : ρ x = ρ y) : jn2 a b ρ x = jn2 a b ρ y := by unfold jn2; rw [h]
theorem jn2_le {a b : Nat} {ρ : Nat → Nat} {x : Nat} : jn2 a b ρ x ≤ ρ x := by
  unfold jn2
  split
  · rename_i h; rcases h with h | h <;> omega
  · exact Nat.le_refl _
theorem jn2_ab {ρ : Nat → Nat} {x y : Nat} : jn2 (ρ x) (ρ y) ρ x = jn2 (ρ x) (ρ y) ρ y := by unfold jn2; simp

/-- The group of a number, up to a place. -/
def gr (ρ : Nat → Nat) (k r : Nat) : List Int := ((List.range k).filter fun i => Nat.beq (ρ i) r).map fun (i : Nat) => (i : Int)
theorem gr_succ (ρ : Nat → Nat) (k r : Nat) : gr ρ (k + 1) r = gr ρ k r ++ (if ρ k = r then [(k : Int)] else []) := by
  unfold gr
  rw [List.range_succ, List.filter_append, List.map_append]
  congr 1
  by_cases h2 : ρ k = r
  · simp [h2]
  · have : Nat.beq (ρ k) r = false := by rw [Bool.eq_false_iff]; exact fun h => h2 (Nat.eq_of_beq_eq_true h)
    simp [h2, this]
theorem mem_gr {ρ : Nat → Nat} {k r : Nat} {x : Int} : x ∈ gr ρ k r ↔ ∃ i : Nat, x = (i : Int) ∧ i < k ∧ ρ i = r := by
  unfold gr
  simp only [List.mem_map, List.mem_filter, List.mem_range]
  constructor
  · rintro ⟨i, ⟨h1, h2⟩, rfl⟩
    exact ⟨i, rfl, h1, Nat.eq_of_beq_eq_true h2⟩
  · rintro ⟨i, rfl, h1, rfl⟩
    exact ⟨i, ⟨h1, by simp⟩, rfl⟩
theorem gr_lt (ρ : Nat → Nat) (k r : Nat) : (gr ρ k r).Pairwise (· < ·) := by
  unfold gr
  exact List.Pairwise.map _ (fun a b h => by omega) (List.Pairwise.filter _ List.pairwise_lt_range)
theorem gr_len (ρ : Nat → Nat) (k r : Nat) : (gr ρ k r).length ≤ k := by
  unfold gr
  rw [List.length_map]
  exact Nat.le_trans (List.length_filter_le _ _) (by simp)

/-- The map of the heads: where each one's group lies. -/
def hds (l : List Nat) : List (Int × Int) := l.map fun (r : Nat) => ((r : Int), (l.idxOf r : Int))
theorem mget_hds {l : List Nat} {r : Nat} : mget (hds l) (r : Int) = if r ∈ l then some (l.idxOf r : Int) else none := mget_map (fun r => (l.idxOf r : Int)) l r
theorem mput_hds {l : List Nat} {r : Nat} (h : r ∉ l) : mput (hds l) (r : Int) (l.length : Int) = hds (l ++ [r]) := by
  unfold mput
  rw [mget_hds, if_neg h]
  simp only [Option.isSome_none, Bool.false_eq_true, if_false]
  unfold hds
  rw [List.map_append]
  congr 1
  · exact List.map_congr_left fun k hk => by rw [List.idxOf_append, if_pos hk]
  · simp [List.idxOf_append, h]

end Go.Proofs.Ytndfiddakngjdaa
