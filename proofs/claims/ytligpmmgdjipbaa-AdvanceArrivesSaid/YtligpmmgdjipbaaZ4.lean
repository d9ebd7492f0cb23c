/- The law AdvanceArrives holds of the program: for every input it returns true, and the input reads as it did. No condition. -/
import Derived.Test.YtligpmmgdjipbaaZwLa9
import Derived.Test.YtligpmmgdjipbaaZwP2
set_option maxRecDepth 100000
namespace Go.Proofs.Ytligpmmgdjipbaa
set_option linter.unusedVariables false
set_option linter.unusedSimpArgs false
open Go.Aw
open Go.ChangeShapes Go.WideShapes Go.ChangeAt Go.RowKit
theorem advanceArrives_contract (l0 : List Int) : ACalls Try.env 7 [.list 1 (l0.map rI)] [] fun x _ => x = .v (.bool true) :=
 (L.zxvu_ok l0 true (advanceArrives l0)).mono fun _ _ h => h.1
theorem Try.own : ownKnob Try.prog.godebug = none := by kernel_rfl
theorem Try.laidOut : laidOutB Try.prog = true := by kernel_rfl
theorem advanceArrives_lifted (os : Os) (started : os.Started) (H : Type) (enc : TypeId × Value → H) :
  ReturnsInHanded {} Try.checked os 7 .any (Rows.advanceArrivesSpec.pre6 enc Try.prog Try.f7 Rows.advanceArrivesRow.domain false) (Rows.advanceArrivesSpec.post enc Try.prog Try.f7 false true false false) := by
 refine returnsInHanded_of_change_sized (C := Try.checked) Try.own started (by kernel_rfl) Try.func7
  (ChangeSpec.witness6 (enc := enc) (C := Try.checked) false ⟨#[], #[.slice none 0 0], []⟩ 8 (by kernel_rfl) (by kernel_rfl) (by kernel_rfl) (by kernel_rfl)) ?_
 intro W base args ds gs before hval0 hW _ hsz0 _
 have hsz : (DataW.weightsEach Try.prog (Try.f7.params.toList ++ Rows.advanceArrivesSpec.plain.varTypes Try.prog) (ds ++ gs)).all (· ≤ reachBytes) = true := hsz0
 clear hsz0
 have hval : ∀ (j : Nat) t v, Try.f7.params[j]? = some t → args[j]? = some v → Value.okWide Try.prog W .any base t v := hval0
 have hW' := hW
 obtain ⟨p, q, hA0, hV, rfl, _, _⟩ := hW
 have hAk : DataW.TrodAll enc Try.prog W 0 (fun _ => true) true Try.f7.params.toList args.toList ds p := hA0
 obtain ⟨args⟩ := args
 have hA : DataW.TrodAll enc Try.prog W 0 (fun _ => true) true Try.f7.params.toList args ds p := hA0
 clear hA0 hval0
 rw [Try.params7] at hA hval hsz
 obtain ⟨v0, vs0, d0, ds0, p0, q0, rfl, rfl, rfl, h0, hA0⟩ := trodAll_cons hA
 obtain ⟨rfl, rfl, rfl⟩ := trodAll_nil hA0
 obtain ⟨rfl, rfl⟩ := trodVars_none hV
 obtain ⟨l0, hl0, wl0, hd0⟩ := open_list Try.underlying22 Try.underlying3 (by kernel_rfl) (hval 0 22 v0 rfl rfl) h0
 have hll0 : l0.length ≤ 17592186043904 := by
  rcases hd0 with rfl | ⟨es, sp, rfl, hle⟩
  ·simp
  ·have := sized_slice hsz (j := 0) (t := 22) (e := 3) rfl rfl Try.underlying22
   rw [show Try.prog.bytesOf 3 = 8 from by kernel_rfl] at this
   simp only [reachBytes] at this
   omega
 refine (law_calls (E := Try.env) (fun _ _ h => by cases h) (advanceArrives_contract l0) rfl ?_).mono fun e W' ⟨he, hb⟩ => ⟨_, he, law_post hW' hAk rfl rfl rfl rfl rfl Try.underlying4 Try.laidOut ?_ hb⟩
 ·intro i x hx
  match i, hx with
  | 0, hx => cases hx; exact hl0 (by unfold maxL; omega)
  | i + 1, hx => simp at hx
 ·intro t ht
  rw [Try.params7] at ht
  simp only [List.mem_cons, List.not_mem_nil, or_false] at ht
  rcases ht with rfl
  all_goals exact ⟨by kernel_rfl, of_decide_eq_true (by kernel_rfl)⟩
theorem advanceArrives_holds : Rows.AdvanceArrivesSaid :=
 OpenClaim.holds_of_wide 7 Try.f7 rfl rfl rfl rfl rfl rfl rfl ⟨rfl, rfl, rfl, rfl, rfl⟩ rfl rfl rfl rfl rfl (by kernel_rfl) Try.func7 (by kernel_rfl)
  (of_decide_eq_true (by kernel_rfl)) (by unfold Func.isWrapper; first | (rw [if_pos (by decide +kernel)]; kernel_rfl) | (rw [if_neg (by decide +kernel)]; exact ⟨rfl, rfl⟩))
  (fun os started H enc _ => advanceArrives_lifted os started H enc)
end Go.Proofs.Ytligpmmgdjipbaa
