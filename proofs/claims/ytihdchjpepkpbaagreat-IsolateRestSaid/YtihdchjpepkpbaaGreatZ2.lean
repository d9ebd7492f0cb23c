/- The law IsolateRest holds of the program: for every input it returns true, and the input reads as it did. No condition. -/
import Derived.Test.YtihdchjpepkpbaaGreatZiL4
import Derived.Test.YtihdchjpepkpbaaGreatZiP2
set_option maxRecDepth 100000
namespace Go.Proofs.YtihdchjpepkpbaaGreat
set_option linter.unusedVariables false
set_option linter.unusedSimpArgs false
open Go.Aw
open Go.ChangeShapes Go.WideShapes Go.ChangeAt Go.RowKit
theorem isolateRest_contract (l0 : List Int) : ACalls Ah 5 [.list 1 (l0.map rI)] [] fun x _ => x = .v (.bool true) :=
 (Zf l0 true (T0 l0)).mono fun _ _ h => h.1
theorem Tryz.own : ownKnob Tryz.prog.godebug = none := by kernel_rfl
theorem Tryz.laidOut : laidOutB Tryz.prog = true := by kernel_rfl
theorem isolateRest_lifted (os : Os) (started : os.Started) (H : Type) (enc : TypeId × Value → H) :
  ReturnsInHanded {} Tryz.checked os 5 .any (Rows.isolateRestSpec.pre6 enc Tryz.prog Tryz.f5 Rows.isolateRestRow.domain false) (Rows.isolateRestSpec.post enc Tryz.prog Tryz.f5 false true false false) := by
 refine returnsInHanded_of_change_sized (C := Tryz.checked) Tryz.own started (by kernel_rfl) Tryz.func5
  (ChangeSpec.witness6 (enc := enc) (C := Tryz.checked) false ⟨#[], #[.slice none 0 0], []⟩ 8 (by kernel_rfl) (by kernel_rfl) (by kernel_rfl) (by kernel_rfl)) ?_
 intro W base args ds gs before hval0 hW _ hsz0 _
 have hsz : (DataW.weightsEach Tryz.prog (Tryz.f5.params.toList ++ Rows.isolateRestSpec.plain.varTypes Tryz.prog) (ds ++ gs)).all (· ≤ reachBytes) = true := hsz0
 clear hsz0
 have hval : ∀ (j : Nat) t v, Tryz.f5.params[j]? = some t → args[j]? = some v → Value.okWide Tryz.prog W .any base t v := hval0
 have hW' := hW
 obtain ⟨p, q, hA0, hV, rfl, _, _⟩ := hW
 have hAk : DataW.TrodAll enc Tryz.prog W 0 (fun _ => true) true Tryz.f5.params.toList args.toList ds p := hA0
 obtain ⟨args⟩ := args
 have hA : DataW.TrodAll enc Tryz.prog W 0 (fun _ => true) true Tryz.f5.params.toList args ds p := hA0
 clear hA0 hval0
 rw [Tryz.params5] at hA hval hsz
 obtain ⟨v0, vs0, d0, ds0, p0, q0, rfl, rfl, rfl, h0, hA0⟩ := trodAll_cons hA
 obtain ⟨rfl, rfl, rfl⟩ := trodAll_nil hA0
 obtain ⟨rfl, rfl⟩ := trodVars_none hV
 obtain ⟨l0, hl0, wl0, hd0⟩ := Wy Tryz.underlying22 Tryz.underlying3 (by kernel_rfl) (hval 0 22 v0 rfl rfl) h0
 have hll0 : l0.length ≤ 17592186043904 := by
  rcases hd0 with rfl | ⟨es, sp, rfl, hle⟩
  ·simp
  ·have := sized_slice hsz (j := 0) (t := 22) (e := 3) rfl rfl Tryz.underlying22
   rw [show Tryz.prog.bytesOf 3 = 8 from by kernel_rfl] at this
   simp only [reachBytes] at this
   omega
 refine (Xa (E := Ah) (fun _ _ h => by cases h) (isolateRest_contract l0) rfl ?_).mono fun e W' ⟨he, hb⟩ => ⟨_, he, bH hW' hAk rfl rfl rfl rfl rfl Tryz.underlying4 Tryz.laidOut ?_ hb⟩
 ·intro i x hx
  match i, hx with
  | 0, hx => cases hx; exact hl0 (by unfold G6; omega)
  | i + 1, hx => simp at hx
 ·intro t ht
  rw [Tryz.params5] at ht
  simp only [List.mem_cons, List.not_mem_nil, or_false] at ht
  rcases ht with rfl
  all_goals exact ⟨by kernel_rfl, of_decide_eq_true (by kernel_rfl)⟩
theorem isolateRest_holds : Rows.IsolateRestSaid :=
 OpenClaim.holds_of_wide 5 Tryz.f5 rfl rfl rfl rfl rfl rfl rfl ⟨rfl, rfl, rfl, rfl, rfl⟩ rfl rfl rfl rfl rfl (by kernel_rfl) Tryz.func5 (by kernel_rfl)
  (of_decide_eq_true (by kernel_rfl)) (by unfold Func.isWrapper; first | (rw [if_pos (by decide +kernel)]; kernel_rfl) | (rw [if_neg (by decide +kernel)]; exact ⟨rfl, rfl⟩))
  (fun os started H enc _ => isolateRest_lifted os started H enc)
end Go.Proofs.YtihdchjpepkpbaaGreat
