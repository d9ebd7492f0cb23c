/- The law GradientAnswers holds of the program: for every input it returns true, and the input reads as it did. No condition. -/
import Derived.Test.YtkhcdkioehdndaaGreatDoorZxL3
import Derived.Test.YtkhcdkioehdndaaGreatDoorZxP2
import Derived.Test.YtkhcdkioehdndaaGreatDoorCards
import Derived.Test.YtkhcdkioehdndaaGreatDoorTie
import Derived.SevenTiedAt
set_option maxRecDepth 100000
namespace Go.Proofs.YtkhcdkioehdndaaGreatDoor
set_option linter.unusedVariables false
set_option linter.unusedSimpArgs false
open Go.Aw
open Go.ChangeShapes Go.WideShapes Go.ChangeAt Go.RowKit
theorem gradientAnswers_contract (a0 : Segment) (l1 : List Piece) (l2 : List Batch) (a3 : Int) (a4 : Int) (a5 : Bounds) (l6 : List Level) (l7 : List Int) : ACalls Ah 4 [.agg (Aa a0), .list 2 (l1.map Aq), .list 4 (l2.map Cf), .v (.int .i64 a3), .v (.int .i64 a4), .agg (Al a5), .list 3 (l6.map Ay), .list 1 (l7.map rI)] [] fun x _ => x = .v (.bool true) :=
 (Xe a0 l1 l2 a3 a4 a5 l6 l7 true (Ly a0 l1 l2 a3 a4 a5 l6 l7)).mono fun _ _ h => h.1
theorem op9 {H : Type} {enc : TypeId × Value → H} {W : World} : Opn enc Tryz.prog W 9 rS := .string Tryz.underlying9
theorem op3 {H : Type} {enc : TypeId × Value → H} {W : World} : Opn enc Tryz.prog W 3 rI := .int Tryz.underlying3
theorem op35 {H : Type} {enc : TypeId × Value → H} {W : World} : Opn enc Tryz.prog W 35 A1 := (Opn.struct (N := 3) Tryz.underlying35 (by kernel_rfl) (.cons (k := 1) rfl (by kernel_rfl) op3 (.cons (k := 1) rfl (by kernel_rfl) op3 (.cons (k := 1) rfl (by kernel_rfl) op3 (.nil))))).map (fun a => (⟨a.1, a.2.1, a.2.2.1⟩ : Point)) fun _ => rfl
theorem op26 {H : Type} {enc : TypeId × Value → H} {W : World} : Opn enc Tryz.prog W 26 (fun l : List Point => [T.list 3 (l.map A1)]) := .list Tryz.underlying26 (of_decide_eq_true (by kernel_rfl)) (by kernel_rfl) (fun _ => rfl) op35
theorem op28 {H : Type} {enc : TypeId × Value → H} {W : World} : Opn enc Tryz.prog W 28 Aa := (Opn.struct (N := 7) Tryz.underlying28 (by kernel_rfl) (.cons (k := 1) rfl (by kernel_rfl) op9 (.cons (k := 1) rfl (by kernel_rfl) op3 (.cons (k := 1) rfl (by kernel_rfl) op3 (.cons (k := 1) rfl (by kernel_rfl) op3 (.cons (k := 1) rfl (by kernel_rfl) op3 (.cons (k := 1) rfl (by kernel_rfl) op3 (.cons (k := 1) rfl (by kernel_rfl) op26 (.nil))))))))).map (fun a => (⟨a.1, a.2.1, a.2.2.1, a.2.2.2.1, a.2.2.2.2.1, a.2.2.2.2.2.1, a.2.2.2.2.2.2.1⟩ : Segment)) fun _ => rfl
theorem op88 {H : Type} {enc : TypeId × Value → H} {W : World} : Opn enc Tryz.prog W 88 Aq := (Opn.struct (N := 2) Tryz.underlying88 (by kernel_rfl) (.cons (k := 1) rfl (by kernel_rfl) op3 (.cons (k := 1) rfl (by kernel_rfl) op3 (.nil)))).map (fun a => (⟨a.1, a.2.1⟩ : Piece)) fun _ => rfl
theorem op29 {H : Type} {enc : TypeId × Value → H} {W : World} : Opn enc Tryz.prog W 29 (fun l : List Piece => [T.list 2 (l.map Aq)]) := .list Tryz.underlying29 (of_decide_eq_true (by kernel_rfl)) (by kernel_rfl) (fun _ => rfl) op88
theorem op103 {H : Type} {enc : TypeId × Value → H} {W : World} : Opn enc Tryz.prog W 103 Cf := (Opn.struct (N := 4) Tryz.underlying103 (by kernel_rfl) (.cons (k := 1) rfl (by kernel_rfl) op3 (.cons (k := 1) rfl (by kernel_rfl) op9 (.cons (k := 1) rfl (by kernel_rfl) op3 (.cons (k := 1) rfl (by kernel_rfl) op3 (.nil)))))).map (fun a => (⟨a.1, a.2.1, a.2.2.1, a.2.2.2.1⟩ : Batch)) fun _ => rfl
theorem op30 {H : Type} {enc : TypeId × Value → H} {W : World} : Opn enc Tryz.prog W 30 (fun l : List Batch => [T.list 4 (l.map Cf)]) := .list Tryz.underlying30 (of_decide_eq_true (by kernel_rfl)) (by kernel_rfl) (fun _ => rfl) op103
theorem op37 {H : Type} {enc : TypeId × Value → H} {W : World} : Opn enc Tryz.prog W 37 Al := (Opn.struct (N := 2) Tryz.underlying37 (by kernel_rfl) (.cons (k := 1) rfl (by kernel_rfl) op3 (.cons (k := 1) rfl (by kernel_rfl) op3 (.nil)))).map (fun a => (⟨a.1, a.2.1⟩ : Bounds)) fun _ => rfl
theorem op43 {H : Type} {enc : TypeId × Value → H} {W : World} : Opn enc Tryz.prog W 43 Ay := (Opn.struct (N := 3) Tryz.underlying43 (by kernel_rfl) (.cons (k := 1) rfl (by kernel_rfl) op3 (.cons (k := 2) rfl (by kernel_rfl) op37 (.nil)))).map (fun a => (⟨a.1, a.2.1⟩ : Level)) fun _ => rfl
theorem op38 {H : Type} {enc : TypeId × Value → H} {W : World} : Opn enc Tryz.prog W 38 (fun l : List Level => [T.list 3 (l.map Ay)]) := .list Tryz.underlying38 (of_decide_eq_true (by kernel_rfl)) (by kernel_rfl) (fun _ => rfl) op43
theorem op22 {H : Type} {enc : TypeId × Value → H} {W : World} : Opn enc Tryz.prog W 22 (fun l : List Int => [T.list 1 (l.map rI)]) := .list Tryz.underlying22 (of_decide_eq_true (by kernel_rfl)) (by kernel_rfl) (fun _ => rfl) op3
theorem Tryz.own : ownKnob Tryz.prog.godebug = none := by kernel_rfl
theorem Tryz.laidOut : laidOutB Tryz.prog = true := by kernel_rfl
def laidG : List (String × DataW Unit) := [("batchline/product.spans", Rows.laid_batchline_product_spans)]
theorem door_met (os : Os) (args : Array Value) : laidMetH Tryz.prog laidG ((World.doorLaid Tryz.prog 400 os).forCall (fun _ _ => 0) ⟨#[], args, []⟩).memory :=
 laidMetH_of_parts3 (fuel := 8) (laidMet_of_run' 8 (by kernel_rfl) (by kernel_rfl)) (by kernel_rfl) (by kernel_rfl)
theorem held_laid {W : World} (h : laidMetH Tryz.prog laidG W) : Vg fun b => W.heap[b]? := by
 rw [MakeChecks.laidMetH_plain _ _ _ (by kernel_rfl)] at h
 obtain ⟨ps, ⟨g0, t0, cs0, f0, p0, q0, hg0, ht0, hv0, hd0, _, _⟩, _, _⟩ := h
 obtain rfl := Option.some.inj ((show Tryz.prog.globalNamed "batchline/product.spans" = some 0 by kernel_rfl).symm.trans hg0)
 obtain rfl := Option.some.inj ((show (Tryz.prog.globals[0]?).map (·.type) = some 123 by kernel_rfl).symm.trans ht0)
 exact cV hg0 hv0 (Sr Tryz.underlying123 Tryz.underlying122 rfl rfl rfl rfl Tryz.underlying3 (by kernel_rfl) (by kernel_rfl) (by kernel_rfl) hd0) rfl
theorem gradientAnswers_lifted (os : Os) (started : os.Started) (H : Type) (enc : TypeId × Value → H) :
  ReturnsInHanded {} Tryz.checked os 4 .any (fun w args => (Rows.gradientAnswersSpec.pre enc Tryz.prog Tryz.f4 [] false w args ∧ laidMetH Tryz.prog laidG w) ∧ sizedMet enc Tryz.prog Tryz.f4 (OpenSpec.ofChange Rows.gradientAnswersSpec) false w args) (Rows.gradientAnswersSpec.post enc Tryz.prog Tryz.f4 false true false false) := by
 refine returnsInHanded_of_change_and (C := Tryz.checked) (X := fun w _ => laidMetH Tryz.prog laidG w) (fun _ _ _ hh h => h.of_heap hh) Tryz.own started (by kernel_rfl) Tryz.func4
  (ChangeSpec.witness_shaped (enc := enc) (C := Tryz.checked) (os := os) (X := fun w _ => laidMetH Tryz.prog laidG w) false (World.doorLaid Tryz.prog 400 os) #[.agg #[.string ⟨#[]⟩, .int .i64 0, .int .i64 0, .int .i64 0, .int .i64 0, .int .i64 0, .slice none 0 0], .slice none 0 0, .slice none 0 0, .int .i64 0, .int .i64 0, .agg #[.int .i64 0, .int .i64 0], .slice none 0 0, .slice none 0 0] 8 rfl (World.shaped_of_RefB (by kernel_rfl) (by kernel_rfl)) (by kernel_rfl) (by kernel_rfl) (by kernel_rfl) (door_met os _)) ?_
 intro W base args ds gs before hval0 hW _ hsz0 hL _
 have hsz : (DataW.weightsEach Tryz.prog (Tryz.f4.params.toList ++ Rows.gradientAnswersSpec.plain.varTypes Tryz.prog) (ds ++ gs)).all (· ≤ reachBytes) = true := hsz0
 clear hsz0
 have hval : ∀ (j : Nat) t v, Tryz.f4.params[j]? = some t → args[j]? = some v → Value.okWide Tryz.prog W .any base t v := hval0
 have hW' := hW
 obtain ⟨p, q, hA0, hV, rfl, _, _⟩ := hW
 have hAk : DataW.TrodAll enc Tryz.prog W 0 (fun _ => true) true Tryz.f4.params.toList args.toList ds p := hA0
 obtain ⟨args⟩ := args
 have hA : DataW.TrodAll enc Tryz.prog W 0 (fun _ => true) true Tryz.f4.params.toList args ds p := hA0
 clear hA0 hval0
 rw [Tryz.params4] at hA hval hsz
 obtain ⟨v0, vs0, d0, ds0, p0, q0, rfl, rfl, rfl, h0, hA0⟩ := trodAll_cons hA
 obtain ⟨v1, vs1, d1, ds1, p1, q1, rfl, rfl, rfl, h1, hA1⟩ := trodAll_cons hA0
 obtain ⟨v2, vs2, d2, ds2, p2, q2, rfl, rfl, rfl, h2, hA2⟩ := trodAll_cons hA1
 obtain ⟨v3, vs3, d3, ds3, p3, q3, rfl, rfl, rfl, h3, hA3⟩ := trodAll_cons hA2
 obtain ⟨v4, vs4, d4, ds4, p4, q4, rfl, rfl, rfl, h4, hA4⟩ := trodAll_cons hA3
 obtain ⟨v5, vs5, d5, ds5, p5, q5, rfl, rfl, rfl, h5, hA5⟩ := trodAll_cons hA4
 obtain ⟨v6, vs6, d6, ds6, p6, q6, rfl, rfl, rfl, h6, hA6⟩ := trodAll_cons hA5
 obtain ⟨v7, vs7, d7, ds7, p7, q7, rfl, rfl, rfl, h7, hA7⟩ := trodAll_cons hA6
 obtain ⟨rfl, rfl, rfl⟩ := trodAll_nil hA7
 obtain ⟨rfl, rfl⟩ := trodVars_none hV
 obtain ⟨a0, ha0⟩ := Opn.agg op28 hsz (j := 0) rfl rfl Tryz.underlying28 (hval 0 28 v0 rfl rfl) h0
 obtain ⟨l1, hl1⟩ := Opn.one (x := fun l : List Piece => T.list 2 (l.map Aq)) op29 hsz (j := 1) rfl rfl (Gf Tryz.underlying29 (hval 1 29 v1 rfl rfl)) h1
 obtain ⟨l2, hl2⟩ := Opn.one (x := fun l : List Batch => T.list 4 (l.map Cf)) op30 hsz (j := 2) rfl rfl (Gf Tryz.underlying30 (hval 2 30 v2 rfl rfl)) h2
 obtain ⟨a3, rfl, rfl, rfl, wa3⟩ := open_int Tryz.underlying3 (hval 3 3 v3 rfl rfl) h3
 have wb3 := Zb wa3
 obtain ⟨a4, rfl, rfl, rfl, wa4⟩ := open_int Tryz.underlying3 (hval 4 3 v4 rfl rfl) h4
 have wb4 := Zb wa4
 obtain ⟨a5, ha5⟩ := Opn.agg op37 hsz (j := 5) rfl rfl Tryz.underlying37 (hval 5 37 v5 rfl rfl) h5
 obtain ⟨l6, hl6⟩ := Opn.one (x := fun l : List Level => T.list 3 (l.map Ay)) op38 hsz (j := 6) rfl rfl (Gf Tryz.underlying38 (hval 6 38 v6 rfl rfl)) h6
 obtain ⟨l7, hl7⟩ := Opn.one (x := fun l : List Int => T.list 1 (l.map rI)) op22 hsz (j := 7) rfl rfl (Gf Tryz.underlying22 (hval 7 22 v7 rfl rfl)) h7
 refine (Vv (E := Ah) (held_laid hL) (gradientAnswers_contract a0 l1 l2 a3 a4 a5 l6 l7) rfl ?_).mono fun e W' ⟨he, hb⟩ => ⟨_, he, Z3 hW' hAk rfl rfl rfl rfl rfl Tryz.underlying4 Tryz.laidOut ?_ hb⟩
 ·intro i x hx
  match i, hx with
  | 0, hx => cases hx; exact ha0
  | 1, hx => cases hx; exact hl1
  | 2, hx => cases hx; exact hl2
  | 3, hx => cases hx; exact .v _
  | 4, hx => cases hx; exact .v _
  | 5, hx => cases hx; exact ha5
  | 6, hx => cases hx; exact hl6
  | 7, hx => cases hx; exact hl7
  | i + 8, hx => simp at hx
 ·intro t ht
  rw [Tryz.params4] at ht
  simp only [List.mem_cons, List.not_mem_nil, or_false] at ht
  rcases ht with rfl | rfl | rfl | rfl | rfl | rfl | rfl | rfl
  all_goals exact ⟨by kernel_rfl, of_decide_eq_true (by kernel_rfl)⟩
theorem gradientAnswers_holds : Rows.GradientAnswersSaid :=
 OpenClaim.holds_of_wide 4 Tryz.f4 rfl rfl rfl rfl rfl rfl rfl ⟨rfl, rfl, rfl, rfl, rfl⟩ rfl rfl rfl rfl rfl (by kernel_rfl) Tryz.func4 (by kernel_rfl)
  (of_decide_eq_true (by kernel_rfl)) (by unfold Func.isWrapper; first | (rw [if_pos (by decide +kernel)]; kernel_rfl) | (rw [if_neg (by decide +kernel)]; exact ⟨rfl, rfl⟩))
  (fun os started H enc _ => gradientAnswers_lifted os started H enc)
theorem gradientAnswers_card_holds : Rows.GradientAnswersCardSaid :=
 Claim7.holds_tied_plain_at .later [] [.data] true (true, "9a471f9900eade0c39c1bbf6cd62def14c1c8ddc35fd95ec55da4861613aef50") false
  gradientAnswers_holds (fun _ h => by cases h) (by kernel_rfl) (fun _ h => by cases h) gradientAnswers_row_tie rfl ⟨rfl, rfl⟩ (by kernel_rfl) rfl
  (fun f fn hf hfn => by
   obtain rfl : f = 4 := Option.some.inj ((show Tryz.prog.funcNamed "batchline/batchlinelaw19.GradientAnswers" = some 4 by kernel_rfl).symm.trans hf) |>.symm
   obtain rfl : fn = Tryz.f4 := (Option.some.inj (Tryz.func4.symm.trans hfn)).symm
   exact ⟨by kernel_rfl, fun j t ht => by
    rw [Tryz.params4] at ht
    have hm : t ∈ [28, 29, 30, 3, 3, 37, 38, 22] := by simpa using Array.mem_of_getElem? ht
    have hall : ([28, 29, 30, 3, 3, 37, 38, 22].all fun u => !Tryz.prog.wantsStandIn u) = true := by kernel_rfl
    exact (show Tryz.prog.wantsStandIn t = false by simpa using List.all_eq_true.1 hall t hm)⟩)
  (by kernel_rfl)
end Go.Proofs.YtkhcdkioehdndaaGreatDoor
