/- The law PathsMade holds of the program: for every input it returns true, and the input reads as it did. No condition. -/
import Derived.Test.YtihdchjpepkpbaaGreatZwP0
import Derived.Test.YtihdchjpepkpbaaGreatZwP3
set_option maxRecDepth 100000
namespace Go.Proofs.YtihdchjpepkpbaaGreat
set_option linter.unusedVariables false
set_option linter.unusedSimpArgs false
open Go.Aw
open Go.ChangeShapes Go.WideShapes Go.ChangeAt Go.RowKit
theorem pathsMade_contract (l0 : List Int) (a1 : Int) (a2 : Int) : ACalls Ak 3 [.list 1 (l0.map rI), .v (.int .i64 a1), .v (.int .i64 a2)] [] fun x _ => x = .v (.bool true) :=
 (Z2 l0 a1 a2 true (Yu l0 a1 a2)).mono fun _ _ h => h.1
theorem Tryz.own : ownKnob Tryz.prog.godebug = none := by kernel_rfl
theorem Tryz.laidOut : laidOutB Tryz.prog = true := by kernel_rfl
theorem pathsMade_lifted (os : Os) (started : os.Started) (H : Type) (enc : TypeId × Value → H) :
  ReturnsInHanded {} Tryz.checked os 3 .any (Rows.pathsMadeSpec.pre6 enc Tryz.prog Tryz.f3 Rows.pathsMadeRow.domain false) (Rows.pathsMadeSpec.post enc Tryz.prog Tryz.f3 false true false false) := by
 refine returnsInHanded_of_change_sized (C := Tryz.checked) Tryz.own started (by kernel_rfl) Tryz.func3
  (ChangeSpec.witness6 (enc := enc) (C := Tryz.checked) false ⟨#[], #[.slice none 0 0, .int .i64 0, .int .i64 0], []⟩ 8 (by kernel_rfl) (by kernel_rfl) (by kernel_rfl) (by kernel_rfl)) ?_
 intro W base args ds gs before hval0 hW _ hsz0 _
 have hsz : (DataW.weightsEach Tryz.prog (Tryz.f3.params.toList ++ Rows.pathsMadeSpec.plain.varTypes Tryz.prog) (ds ++ gs)).all (· ≤ reachBytes) = true := hsz0
 clear hsz0
 have hval : ∀ (j : Nat) t v, Tryz.f3.params[j]? = some t → args[j]? = some v → Value.okWide Tryz.prog W .any base t v := hval0
 have hW' := hW
 obtain ⟨p, q, hA0, hV, rfl, _, _⟩ := hW
 have hAk : DataW.TrodAll enc Tryz.prog W 0 (fun _ => true) true Tryz.f3.params.toList args.toList ds p := hA0
 obtain ⟨args⟩ := args
 have hA : DataW.TrodAll enc Tryz.prog W 0 (fun _ => true) true Tryz.f3.params.toList args ds p := hA0
 clear hA0 hval0
 rw [Tryz.params3] at hA hval hsz
 obtain ⟨v0, vs0, d0, ds0, p0, q0, rfl, rfl, rfl, h0, hA0⟩ := trodAll_cons hA
 obtain ⟨v1, vs1, d1, ds1, p1, q1, rfl, rfl, rfl, h1, hA1⟩ := trodAll_cons hA0
 obtain ⟨v2, vs2, d2, ds2, p2, q2, rfl, rfl, rfl, h2, hA2⟩ := trodAll_cons hA1
 obtain ⟨rfl, rfl, rfl⟩ := trodAll_nil hA2
 obtain ⟨rfl, rfl⟩ := trodVars_none hV
 obtain ⟨l0, hl0, wl0, hd0⟩ := Yy Tryz.underlying22 Tryz.underlying3 (by kernel_rfl) (hval 0 22 v0 rfl rfl) h0
 have hll0 : l0.length ≤ 17592186043904 := by
  rcases hd0 with rfl | ⟨es, sp, rfl, hle⟩
  ·simp
  ·have := sized_slice hsz (j := 0) (t := 22) (e := 3) rfl rfl Tryz.underlying22
   rw [show Tryz.prog.bytesOf 3 = 8 from by kernel_rfl] at this
   simp only [reachBytes] at this
   omega
 obtain ⟨a1, rfl, rfl, rfl, wa1⟩ := open_int Tryz.underlying3 (hval 1 3 v1 rfl rfl) h1
 have wb1 := cU wa1
 obtain ⟨a2, rfl, rfl, rfl, wa2⟩ := open_int Tryz.underlying3 (hval 2 3 v2 rfl rfl) h2
 have wb2 := cU wa2
 refine (Y1 (E := Ak) (fun _ _ h => by cases h) (pathsMade_contract l0 a1 a2) rfl ?_).mono fun e W' ⟨he, hb⟩ => ⟨_, he, eC hW' hAk rfl rfl rfl rfl rfl Tryz.underlying4 Tryz.laidOut ?_ hb⟩
 ·intro i x hx
  match i, hx with
  | 0, hx => cases hx; exact hl0 (by unfold Iy; omega)
  | 1, hx => cases hx; exact .v _
  | 2, hx => cases hx; exact .v _
  | i + 3, hx => simp at hx
 ·intro t ht
  rw [Tryz.params3] at ht
  simp only [List.mem_cons, List.not_mem_nil, or_false] at ht
  rcases ht with rfl | rfl | rfl
  all_goals exact ⟨by kernel_rfl, of_decide_eq_true (by kernel_rfl)⟩
theorem pathsMade_holds : Rows.PathsMadeSaid :=
 OpenClaim.holds_of_wide 3 Tryz.f3 rfl rfl rfl rfl rfl rfl rfl ⟨rfl, rfl, rfl, rfl, rfl⟩ rfl rfl rfl rfl rfl (by kernel_rfl) Tryz.func3 (by kernel_rfl)
  (of_decide_eq_true (by kernel_rfl)) (by unfold Func.isWrapper; first | (rw [if_pos (by decide +kernel)]; kernel_rfl) | (rw [if_neg (by decide +kernel)]; exact ⟨rfl, rfl⟩))
  (fun os started H enc _ => pathsMade_lifted os started H enc)
end Go.Proofs.YtihdchjpepkpbaaGreat
