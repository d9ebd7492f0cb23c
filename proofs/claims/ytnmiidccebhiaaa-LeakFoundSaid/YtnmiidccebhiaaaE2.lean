/- The law LeakFound holds of the program: for every input it returns true, and the input reads as it did. No condition. -/
import Derived.Test.YtnmiidccebhiaaaW5
import Derived.Test.YtnmiidccebhiaaaAwLaw
namespace Go.Proofs.Ytnmiidccebhiaaa
open Go.Aw
open Go.ChangeShapes Go.WideShapes Go.ChangeAt Go.RowKit

theorem Try.own : ownKnob Try.prog.godebug = none := by kernel_rfl
theorem Try.laidOut : laidOutB Try.prog = true := by kernel_rfl

set_option maxRecDepth 100000 in
theorem leakFound_lifted (os : Os) (started : os.Started) (H : Type) (enc : TypeId × Value → H) :
    ReturnsInHanded {} Try.checked os 3 .any (Rows.leakFoundSpec.pre6 enc Try.prog Try.f3 Rows.leakFoundRow.domain false) (Rows.leakFoundSpec.post enc Try.prog Try.f3 false true false false) := by
  refine returnsInHanded_of_change_sized (C := Try.checked) Try.own started (by kernel_rfl) Try.func3
    (ChangeSpec.witness6 (enc := enc) (C := Try.checked) false ⟨#[], #[.slice none 0 0, .int .u8 0, .int .u8 0, .int .u8 0, .int .u8 0, .slice none 0 0], []⟩ 8 (by kernel_rfl) (by kernel_rfl) (by kernel_rfl) (by kernel_rfl)) ?_
  intro W base args ds gs before hval0 hW _ hsz0 _
  have hsz : (DataW.weightsEach Try.prog (Try.f3.params.toList ++ Rows.leakFoundSpec.plain.varTypes Try.prog) (ds ++ gs)).all (· ≤ reachBytes) = true := hsz0
  clear hsz0
  have hval : ∀ (j : Nat) t v, Try.f3.params[j]? = some t → args[j]? = some v → Value.okWide Try.prog W .any base t v := hval0
  have hW' := hW
  obtain ⟨p, q, hA0, hV, rfl, _, _⟩ := hW
  have hAk : DataW.TrodAll enc Try.prog W 0 (fun _ => true) true Try.f3.params.toList args.toList ds p := hA0
  obtain ⟨args⟩ := args
  have hA : DataW.TrodAll enc Try.prog W 0 (fun _ => true) true Try.f3.params.toList args ds p := hA0
  clear hA0 hval0
  rw [Try.params3] at hA hval hsz
  obtain ⟨v0, vs0, d0, ds0, p0, q0, rfl, rfl, rfl, h0, hA0⟩ := trodAll_cons hA
  obtain ⟨v1, vs1, d1, ds1, p1, q1, rfl, rfl, rfl, h1, hA1⟩ := trodAll_cons hA0
  obtain ⟨v2, vs2, d2, ds2, p2, q2, rfl, rfl, rfl, h2, hA2⟩ := trodAll_cons hA1
  obtain ⟨v3, vs3, d3, ds3, p3, q3, rfl, rfl, rfl, h3, hA3⟩ := trodAll_cons hA2
  obtain ⟨v4, vs4, d4, ds4, p4, q4, rfl, rfl, rfl, h4, hA4⟩ := trodAll_cons hA3
  obtain ⟨v5, vs5, d5, ds5, p5, q5, rfl, rfl, rfl, h5, hA5⟩ := trodAll_cons hA4
  obtain ⟨rfl, rfl, rfl⟩ := trodAll_nil hA5
  obtain ⟨rfl, rfl⟩ := trodVars_none hV
  obtain ⟨l0, hl0, wl0, hd0⟩ := open_list Try.underlying22 Try.underlying3 (by kernel_rfl) (hval 0 22 v0 rfl rfl) h0
  have hll0 : l0.length ≤ 17592186043904 := by
    rcases hd0 with rfl | ⟨es, sp, rfl, hle⟩
    · simp
    · have := sized_slice hsz (j := 0) (t := 22) (e := 3) rfl rfl Try.underlying22
      rw [show Try.prog.bytesOf 3 = 8 from by kernel_rfl] at this
      simp only [reachBytes] at this
      omega
  obtain ⟨a1, rfl, rfl, rfl, wa1⟩ := open_int Try.underlying5 (hval 1 5 v1 rfl rfl) h1
  have wb1 := wf_u8 wa1
  obtain ⟨a2, rfl, rfl, rfl, wa2⟩ := open_int Try.underlying5 (hval 2 5 v2 rfl rfl) h2
  have wb2 := wf_u8 wa2
  obtain ⟨a3, rfl, rfl, rfl, wa3⟩ := open_int Try.underlying5 (hval 3 5 v3 rfl rfl) h3
  have wb3 := wf_u8 wa3
  obtain ⟨a4, rfl, rfl, rfl, wa4⟩ := open_int Try.underlying5 (hval 4 5 v4 rfl rfl) h4
  have wb4 := wf_u8 wa4
  obtain ⟨l5, hl5, wl5, hd5⟩ := open_list Try.underlying23 Try.underlying33 (by kernel_rfl) (hval 5 23 v5 rfl rfl) h5
  have hll5 : l5.length ≤ 140737488351232 := by
    rcases hd5 with rfl | ⟨es, sp, rfl, hle⟩
    · simp
    · have := sized_slice hsz (j := 5) (t := 23) (e := 33) rfl rfl Try.underlying23
      rw [show Try.prog.bytesOf 33 = 1 from by kernel_rfl] at this
      simp only [reachBytes] at this
      omega
  refine (law_calls (E := Try.env) (leakFound l0 a1 a2 a3 a4 l5 (fun n hn => wf_i64 (wl0 n hn)) (by omega) wb1 wb2 wb3 wb4 (fun n hn => wf_i8 (wl5 n hn)) (by omega)) rfl ?_).mono fun e W' ⟨he, hb⟩ => ⟨_, he, law_post hW' hAk rfl rfl rfl rfl rfl Try.underlying4 Try.laidOut ?_ hb⟩
  · intro i x hx
    match i, hx with
    | 0, hx => cases hx; exact hl0 (by unfold maxL; omega)
    | 1, hx => cases hx; exact .v _
    | 2, hx => cases hx; exact .v _
    | 3, hx => cases hx; exact .v _
    | 4, hx => cases hx; exact .v _
    | 5, hx => cases hx; exact hl5 (by unfold maxL; omega)
    | i + 6, hx => simp at hx
  · intro t ht
    rw [Try.params3] at ht
    simp only [List.mem_cons, List.not_mem_nil, or_false] at ht
    rcases ht with rfl | rfl | rfl | rfl | rfl | rfl
    all_goals exact ⟨by kernel_rfl, of_decide_eq_true (by kernel_rfl)⟩

theorem leakFound_holds : Rows.LeakFoundSaid :=
  OpenClaim.holds_of_wide 3 Try.f3 rfl rfl rfl rfl rfl rfl rfl ⟨rfl, rfl, rfl, rfl, rfl⟩ rfl rfl rfl rfl rfl (by kernel_rfl) Try.func3 (by kernel_rfl)
    (of_decide_eq_true (by kernel_rfl)) (by unfold Func.isWrapper; first | (rw [if_pos (by decide +kernel)]; kernel_rfl) | (rw [if_neg (by decide +kernel)]; exact ⟨rfl, rfl⟩))
    (fun os started H enc _ => leakFound_lifted os started H enc)

end Go.Proofs.Ytnmiidccebhiaaa
