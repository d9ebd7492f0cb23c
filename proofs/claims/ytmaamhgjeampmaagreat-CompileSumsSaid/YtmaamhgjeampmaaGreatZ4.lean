/- The law CompileSums holds of the program: for every input it returns true, and the input reads as it did. No condition. -/
import Derived.Test.YtmaamhgjeampmaaGreatYsLh2
import Derived.Test.YtmaamhgjeampmaaGreatYsP3
set_option maxRecDepth 100000
namespace Go.Proofs.YtmaamhgjeampmaaGreat
set_option linter.unusedVariables false
set_option linter.unusedSimpArgs false
open Go.Aw
open Go.ChangeShapes Go.WideShapes Go.ChangeAt Go.RowKit
theorem compileSums_contract (l0 : List Int) (a1 : Int) (b1 : 0 ≤ a1 ∧ a1 ≤ 255) : ACalls Tryz.env 6 [.list 1 (l0.map rI), .v (.int .u8 a1)] [] fun x _ => x = .v (.bool true) :=
 (L.zhuo_ok l0 a1 true (compileSums l0 a1 b1)).mono fun _ _ h => h.1
theorem Tryz.own : ownKnob Tryz.prog.godebug = none := by kernel_rfl
theorem Tryz.laidOut : laidOutB Tryz.prog = true := by kernel_rfl
theorem compileSums_lifted (os : Os) (started : os.Started) (H : Type) (enc : TypeId × Value → H) :
  ReturnsInHanded {} Tryz.checked os 6 .any (Rows.compileSumsSpec.pre6 enc Tryz.prog Tryz.f6 Rows.compileSumsRow.domain false) (Rows.compileSumsSpec.post enc Tryz.prog Tryz.f6 false true false false) := by
 refine returnsInHanded_of_change_sized (C := Tryz.checked) Tryz.own started (by kernel_rfl) Tryz.func6
  (ChangeSpec.witness6 (enc := enc) (C := Tryz.checked) false ⟨#[], #[.slice none 0 0, .int .u8 0], []⟩ 8 (by kernel_rfl) (by kernel_rfl) (by kernel_rfl) (by kernel_rfl)) ?_
 intro W base args ds gs before hval0 hW _ hsz0 _
 have hsz : (DataW.weightsEach Tryz.prog (Tryz.f6.params.toList ++ Rows.compileSumsSpec.plain.varTypes Tryz.prog) (ds ++ gs)).all (· ≤ reachBytes) = true := hsz0
 clear hsz0
 have hval : ∀ (j : Nat) t v, Tryz.f6.params[j]? = some t → args[j]? = some v → Value.okWide Tryz.prog W .any base t v := hval0
 have hW' := hW
 obtain ⟨p, q, hA0, hV, rfl, _, _⟩ := hW
 have hAk : DataW.TrodAll enc Tryz.prog W 0 (fun _ => true) true Tryz.f6.params.toList args.toList ds p := hA0
 obtain ⟨args⟩ := args
 have hA : DataW.TrodAll enc Tryz.prog W 0 (fun _ => true) true Tryz.f6.params.toList args ds p := hA0
 clear hA0 hval0
 rw [Tryz.params6] at hA hval hsz
 obtain ⟨v0, vs0, d0, ds0, p0, q0, rfl, rfl, rfl, h0, hA0⟩ := trodAll_cons hA
 obtain ⟨v1, vs1, d1, ds1, p1, q1, rfl, rfl, rfl, h1, hA1⟩ := trodAll_cons hA0
 obtain ⟨rfl, rfl, rfl⟩ := trodAll_nil hA1
 obtain ⟨rfl, rfl⟩ := trodVars_none hV
 obtain ⟨l0, hl0, wl0, hd0⟩ := open_list Tryz.underlying22 Tryz.underlying3 (by kernel_rfl) (hval 0 22 v0 rfl rfl) h0
 have hll0 : l0.length ≤ 17592186043904 := by
  rcases hd0 with rfl | ⟨es, sp, rfl, hle⟩
  ·simp
  ·have := sized_slice hsz (j := 0) (t := 22) (e := 3) rfl rfl Tryz.underlying22
   rw [show Tryz.prog.bytesOf 3 = 8 from by kernel_rfl] at this
   simp only [reachBytes] at this
   omega
 obtain ⟨a1, rfl, rfl, rfl, wa1⟩ := open_int Tryz.underlying5 (hval 1 5 v1 rfl rfl) h1
 have wb1 := wf_u8 wa1
 refine (law_calls (E := Tryz.env) (fun _ _ h => by cases h) (compileSums_contract l0 a1 wb1) rfl ?_).mono fun e W' ⟨he, hb⟩ => ⟨_, he, law_post hW' hAk rfl rfl rfl rfl rfl Tryz.underlying4 Tryz.laidOut ?_ hb⟩
 ·intro i x hx
  match i, hx with
  | 0, hx => cases hx; exact hl0 (by unfold maxL; omega)
  | 1, hx => cases hx; exact .v _
  | i + 2, hx => simp at hx
 ·intro t ht
  rw [Tryz.params6] at ht
  simp only [List.mem_cons, List.not_mem_nil, or_false] at ht
  rcases ht with rfl | rfl
  all_goals exact ⟨by kernel_rfl, of_decide_eq_true (by kernel_rfl)⟩
theorem compileSums_holds : Rows.CompileSumsSaid :=
 OpenClaim.holds_of_wide 6 Tryz.f6 rfl rfl rfl rfl rfl rfl rfl ⟨rfl, rfl, rfl, rfl, rfl⟩ rfl rfl rfl rfl rfl (by kernel_rfl) Tryz.func6 (by kernel_rfl)
  (of_decide_eq_true (by kernel_rfl)) (by unfold Func.isWrapper; first | (rw [if_pos (by decide +kernel)]; kernel_rfl) | (rw [if_neg (by decide +kernel)]; exact ⟨rfl, rfl⟩))
  (fun os started H enc _ => compileSums_lifted os started H enc)
end Go.Proofs.YtmaamhgjeampmaaGreat
