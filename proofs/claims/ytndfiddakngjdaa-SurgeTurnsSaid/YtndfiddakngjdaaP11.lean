/- The law of the groups, for the pure functions. No condition. -/
import Derived.Test.YtndfiddakngjdaaP10
import Derived.KernelRfl
namespace Go.Proofs.Ytndfiddakngjdaa
set_option linter.unusedVariables false
set_option linter.unusedSimpArgs false
open Go.Aw

theorem awake22 : L.law22_awake = some true := by kernel_rfl

theorem groupsCall {n : Network} (hn : NetOk n) {a b : Plan} (ha : PlanOk n a) (hb : PlanOk n b) : Ok (L.surge_Groups n a b) fun r => r.2 = 0 ∧ ∃ ρ heads, Groups n a b r.1 ρ heads := by
  unfold L.surge_Groups L.surge_check
  rw [flowCheck hn ha, flowCheck hn hb]
  refine .bind (Q := fun r => r = 0) (.bind' (.pure (Ok.iteU (fun h => absurd rfl h) fun _ => .bind' (.pure (.pure rfl))))) ?_
  rintro _ rfl
  exact Ok.iteU (fun h => absurd rfl h) fun _ => .bind (groups_ok hn.ends ha.rl hb.rl) fun r hr => .pure ⟨rfl, hr⟩

theorem mem_grp {n : Network} {a b : Plan} {ρ : Nat → Nat} {k r : Nat} {x : Int} : x ∈ grp n a b ρ k r ↔ ∃ i : Nat, x = (i : Int) ∧ i < k ∧ Fl a b i = true ∧ ρ (fr n i) = r := by
  unfold grp
  simp only [List.mem_map, List.mem_filter, List.mem_range, Bool.and_eq_true]
  constructor
  · rintro ⟨i, ⟨h1, h2, h3⟩, rfl⟩
    exact ⟨i, rfl, h1, h2, Nat.eq_of_beq_eq_true h3⟩
  · rintro ⟨i, rfl, h1, h2, rfl⟩
    exact ⟨i, ⟨h1, h2, by simp⟩, rfl⟩

end Go.Proofs.Ytndfiddakngjdaa
