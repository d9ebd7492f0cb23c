/- The law AdvanceAnswers holds of the program: for every input it returns true, and the input reads as it did. No condition. -/
import Derived.Test.YtaoclefkknloiaaGreatZwL6
import Derived.Test.YtaoclefkknloiaaGreatZwP3
set_option maxRecDepth 100000
namespace Go.Proofs.YtaoclefkknloiaaGreat
set_option linter.unusedVariables false
set_option linter.unusedSimpArgs false
open Go.Aw
open Go.ChangeShapes Go.WideShapes Go.ChangeAt Go.RowKit
theorem advanceAnswers_contract (a0 : Network) (l1 : List (List Piece)) (a2 : Plan) (l3 : List Int) (a4 : Int) (l5 : List Int) : ACalls Al 3 [.agg (Ab a0), .list 1 (l1.map (rL 2 Aa)), .agg (Aj a2), .list 1 (l3.map rI), .v (.int .i64 a4), .list 1 (l5.map rI)] [] fun x _ => x = .v (.bool true) :=
 (eQ a0 l1 a2 l3 a4 l5 true (Ss a0 l1 a2 l3 a4 l5)).mono fun _ _ h => h.1
theorem op9 {H : Type} {enc : TypeId × Value → H} {W : World} : Opn enc Tryz.prog W 9 rS := .string Tryz.underlying9
theorem op22 {H : Type} {enc : TypeId × Value → H} {W : World} : Opn enc Tryz.prog W 22 (fun l : List ByteArray => [T.list 1 (l.map rS)]) := .list Tryz.underlying22 (of_decide_eq_true (by kernel_rfl)) (by kernel_rfl) (fun _ => rfl) op9
theorem op3 {H : Type} {enc : TypeId × Value → H} {W : World} : Opn enc Tryz.prog W 3 rI := .int Tryz.underlying3
theorem op86 {H : Type} {enc : TypeId × Value → H} {W : World} : Opn enc Tryz.prog W 86 Bx := (Opn.struct (N := 3) Tryz.underlying86 (by kernel_rfl) (.cons (k := 1) rfl (by kernel_rfl) op3 (.cons (k := 1) rfl (by kernel_rfl) op3 (.cons (k := 1) rfl (by kernel_rfl) op3 (.nil))))).map (fun a => (⟨a.1, a.2.1, a.2.2.1⟩ : Point)) fun _ => rfl
theorem op87 {H : Type} {enc : TypeId × Value → H} {W : World} : Opn enc Tryz.prog W 87 (fun l : List Point => [T.list 3 (l.map Bx)]) := .list Tryz.underlying87 (of_decide_eq_true (by kernel_rfl)) (by kernel_rfl) (fun _ => rfl) op86
theorem op89 {H : Type} {enc : TypeId × Value → H} {W : World} : Opn enc Tryz.prog W 89 Au := (Opn.struct (N := 7) Tryz.underlying89 (by kernel_rfl) (.cons (k := 1) rfl (by kernel_rfl) op9 (.cons (k := 1) rfl (by kernel_rfl) op3 (.cons (k := 1) rfl (by kernel_rfl) op3 (.cons (k := 1) rfl (by kernel_rfl) op3 (.cons (k := 1) rfl (by kernel_rfl) op3 (.cons (k := 1) rfl (by kernel_rfl) op3 (.cons (k := 1) rfl (by kernel_rfl) op87 (.nil))))))))).map (fun a => (⟨a.1, a.2.1, a.2.2.1, a.2.2.2.1, a.2.2.2.2.1, a.2.2.2.2.2.1, a.2.2.2.2.2.2.1⟩ : Segment)) fun _ => rfl
theorem op23 {H : Type} {enc : TypeId × Value → H} {W : World} : Opn enc Tryz.prog W 23 (fun l : List Segment => [T.list 7 (l.map Au)]) := .list Tryz.underlying23 (of_decide_eq_true (by kernel_rfl)) (by kernel_rfl) (fun _ => rfl) op89
theorem op82 {H : Type} {enc : TypeId × Value → H} {W : World} : Opn enc Tryz.prog W 82 Bn := (Opn.struct (N := 3) Tryz.underlying82 (by kernel_rfl) (.cons (k := 1) rfl (by kernel_rfl) op9 (.cons (k := 1) rfl (by kernel_rfl) op3 (.cons (k := 1) rfl (by kernel_rfl) op3 (.nil))))).map (fun a => (⟨a.1, a.2.1, a.2.2.1⟩ : Port)) fun _ => rfl
theorem op24 {H : Type} {enc : TypeId × Value → H} {W : World} : Opn enc Tryz.prog W 24 (fun l : List Port => [T.list 3 (l.map Bn)]) := .list Tryz.underlying24 (of_decide_eq_true (by kernel_rfl)) (by kernel_rfl) (fun _ => rfl) op82
theorem op95 {H : Type} {enc : TypeId × Value → H} {W : World} : Opn enc Tryz.prog W 95 Br := (Opn.struct (N := 5) Tryz.underlying95 (by kernel_rfl) (.cons (k := 1) rfl (by kernel_rfl) op9 (.cons (k := 1) rfl (by kernel_rfl) op3 (.cons (k := 1) rfl (by kernel_rfl) op3 (.cons (k := 1) rfl (by kernel_rfl) op3 (.cons (k := 1) rfl (by kernel_rfl) op3 (.nil))))))).map (fun a => (⟨a.1, a.2.1, a.2.2.1, a.2.2.2.1, a.2.2.2.2.1⟩ : Station)) fun _ => rfl
theorem op25 {H : Type} {enc : TypeId × Value → H} {W : World} : Opn enc Tryz.prog W 25 (fun l : List Station => [T.list 5 (l.map Br)]) := .list Tryz.underlying25 (of_decide_eq_true (by kernel_rfl)) (by kernel_rfl) (fun _ => rfl) op95
theorem op27 {H : Type} {enc : TypeId × Value → H} {W : World} : Opn enc Tryz.prog W 27 Ab := (Opn.struct (N := 6) Tryz.underlying27 (by kernel_rfl) (.cons (k := 1) rfl (by kernel_rfl) op22 (.cons (k := 1) rfl (by kernel_rfl) op23 (.cons (k := 1) rfl (by kernel_rfl) op24 (.cons (k := 1) rfl (by kernel_rfl) op25 (.cons (k := 1) rfl (by kernel_rfl) op3 (.cons (k := 1) rfl (by kernel_rfl) op3 (.nil)))))))).map (fun a => (⟨a.1, a.2.1, a.2.2.1, a.2.2.2.1, a.2.2.2.2.1, a.2.2.2.2.2.1⟩ : Network)) fun _ => rfl
theorem op69 {H : Type} {enc : TypeId × Value → H} {W : World} : Opn enc Tryz.prog W 69 Aa := (Opn.struct (N := 2) Tryz.underlying69 (by kernel_rfl) (.cons (k := 1) rfl (by kernel_rfl) op3 (.cons (k := 1) rfl (by kernel_rfl) op3 (.nil)))).map (fun a => (⟨a.1, a.2.1⟩ : Piece)) fun _ => rfl
theorem op34 {H : Type} {enc : TypeId × Value → H} {W : World} : Opn enc Tryz.prog W 34 (fun l : List Piece => [T.list 2 (l.map Aa)]) := .list Tryz.underlying34 (of_decide_eq_true (by kernel_rfl)) (by kernel_rfl) (fun _ => rfl) op69
theorem op28 {H : Type} {enc : TypeId × Value → H} {W : World} : Opn enc Tryz.prog W 28 (fun l : List (List Piece) => [T.list 1 (l.map (rL 2 Aa))]) := .list Tryz.underlying28 (of_decide_eq_true (by kernel_rfl)) (by kernel_rfl) (fun _ => rfl) op34
theorem op29 {H : Type} {enc : TypeId × Value → H} {W : World} : Opn enc Tryz.prog W 29 (fun l : List Int => [T.list 1 (l.map rI)]) := .list Tryz.underlying29 (of_decide_eq_true (by kernel_rfl)) (by kernel_rfl) (fun _ => rfl) op3
theorem op4 {H : Type} {enc : TypeId × Value → H} {W : World} : Opn enc Tryz.prog W 4 (fun n : Bool => [T.v (.bool n)]) := .bool Tryz.underlying4
theorem op30 {H : Type} {enc : TypeId × Value → H} {W : World} : Opn enc Tryz.prog W 30 (fun l : List Bool => [T.list 1 (l.map rB)]) := .list Tryz.underlying30 (of_decide_eq_true (by kernel_rfl)) (by kernel_rfl) (fun _ => rfl) op4
theorem op32 {H : Type} {enc : TypeId × Value → H} {W : World} : Opn enc Tryz.prog W 32 Aj := (Opn.struct (N := 3) Tryz.underlying32 (by kernel_rfl) (.cons (k := 1) rfl (by kernel_rfl) op29 (.cons (k := 1) rfl (by kernel_rfl) op29 (.cons (k := 1) rfl (by kernel_rfl) op30 (.nil))))).map (fun a => (⟨a.1, a.2.1, a.2.2.1⟩ : Plan)) fun _ => rfl
theorem Tryz.own : ownKnob Tryz.prog.godebug = none := by kernel_rfl
theorem Tryz.laidOut : laidOutB Tryz.prog = true := by kernel_rfl
theorem advanceAnswers_lifted (os : Os) (started : os.Started) (H : Type) (enc : TypeId × Value → H) :
  ReturnsInHanded {} Tryz.checked os 3 .any (Rows.advanceAnswersSpec.pre6 enc Tryz.prog Tryz.f3 Rows.advanceAnswersRow.domain false) (Rows.advanceAnswersSpec.post enc Tryz.prog Tryz.f3 false true false false) := by
 refine returnsInHanded_of_change_sized (C := Tryz.checked) Tryz.own started (by kernel_rfl) Tryz.func3
  (ChangeSpec.witness6 (enc := enc) (C := Tryz.checked) false ⟨#[], #[.agg #[.slice none 0 0, .slice none 0 0, .slice none 0 0, .slice none 0 0, .int .i64 0, .int .i64 0], .slice none 0 0, .agg #[.slice none 0 0, .slice none 0 0, .slice none 0 0], .slice none 0 0, .int .i64 0, .slice none 0 0], []⟩ 8 (by kernel_rfl) (by kernel_rfl) (by kernel_rfl) (by kernel_rfl)) ?_
 intro W base args ds gs before hval0 hW _ hsz0 _
 have hsz : (DataW.weightsEach Tryz.prog (Tryz.f3.params.toList ++ Rows.advanceAnswersSpec.plain.varTypes Tryz.prog) (ds ++ gs)).all (· ≤ reachBytes) = true := hsz0
 clear hsz0
 have hval : ∀ (j : Nat) t v, Tryz.f3.params[j]? = some t → args[j]? = some v → Value.okWide Tryz.prog W .any base t v := hval0
 have hW' := hW
 obtain ⟨p, q, hA0, hV, rfl, _, _⟩ := hW
 have hAk : DataW.TrodAll enc Tryz.prog W 0 (fun _ => true) true Tryz.f3.params.toList args.toList ds p := hA0
 obtain ⟨args⟩ := args
 have hA : DataW.TrodAll enc Tryz.prog W 0 (fun _ => true) true Tryz.f3.params.toList args ds p := hA0
 clear hA0 hval0
 rw [Tryz.params3] at hA hval hsz
 obtain ⟨v0, vs0, d0, ds0, p0, q0, rfl, rfl, rfl, h0, hA0⟩ := trodAll_cons hA
 obtain ⟨v1, vs1, d1, ds1, p1, q1, rfl, rfl, rfl, h1, hA1⟩ := trodAll_cons hA0
 obtain ⟨v2, vs2, d2, ds2, p2, q2, rfl, rfl, rfl, h2, hA2⟩ := trodAll_cons hA1
 obtain ⟨v3, vs3, d3, ds3, p3, q3, rfl, rfl, rfl, h3, hA3⟩ := trodAll_cons hA2
 obtain ⟨v4, vs4, d4, ds4, p4, q4, rfl, rfl, rfl, h4, hA4⟩ := trodAll_cons hA3
 obtain ⟨v5, vs5, d5, ds5, p5, q5, rfl, rfl, rfl, h5, hA5⟩ := trodAll_cons hA4
 obtain ⟨rfl, rfl, rfl⟩ := trodAll_nil hA5
 obtain ⟨rfl, rfl⟩ := trodVars_none hV
 obtain ⟨a0, ha0⟩ := Opn.agg op27 hsz (j := 0) rfl rfl Tryz.underlying27 (hval 0 27 v0 rfl rfl) h0
 obtain ⟨l1, hl1⟩ := Opn.one (x := fun l : List (List Piece) => T.list 1 (l.map (rL 2 Aa))) op28 hsz (j := 1) rfl rfl (Ke Tryz.underlying28 (hval 1 28 v1 rfl rfl)) h1
 obtain ⟨a2, ha2⟩ := Opn.agg op32 hsz (j := 2) rfl rfl Tryz.underlying32 (hval 2 32 v2 rfl rfl) h2
 obtain ⟨l3, hl3⟩ := Opn.one (x := fun l : List Int => T.list 1 (l.map rI)) op29 hsz (j := 3) rfl rfl (Ke Tryz.underlying29 (hval 3 29 v3 rfl rfl)) h3
 obtain ⟨a4, rfl, rfl, rfl, wa4⟩ := open_int Tryz.underlying3 (hval 4 3 v4 rfl rfl) h4
 have wb4 := nU wa4
 obtain ⟨l5, hl5⟩ := Opn.one (x := fun l : List Int => T.list 1 (l.map rI)) op29 hsz (j := 5) rfl rfl (Ke Tryz.underlying29 (hval 5 29 v5 rfl rfl)) h5
 refine (bI (E := Al) (fun _ _ h => by cases h) (advanceAnswers_contract a0 l1 a2 l3 a4 l5) rfl ?_).mono fun e W' ⟨he, hb⟩ => ⟨_, he, hT hW' hAk rfl rfl rfl rfl rfl Tryz.underlying4 Tryz.laidOut ?_ hb⟩
 ·intro i x hx
  match i, hx with
  | 0, hx => cases hx; exact ha0
  | 1, hx => cases hx; exact hl1
  | 2, hx => cases hx; exact ha2
  | 3, hx => cases hx; exact hl3
  | 4, hx => cases hx; exact .v _
  | 5, hx => cases hx; exact hl5
  | i + 6, hx => simp at hx
 ·intro t ht
  rw [Tryz.params3] at ht
  simp only [List.mem_cons, List.not_mem_nil, or_false] at ht
  rcases ht with rfl | rfl | rfl | rfl | rfl | rfl
  all_goals exact ⟨by kernel_rfl, of_decide_eq_true (by kernel_rfl)⟩
theorem advanceAnswers_holds : Rows.AdvanceAnswersSaid :=
 OpenClaim.holds_of_wide 3 Tryz.f3 rfl rfl rfl rfl rfl rfl rfl ⟨rfl, rfl, rfl, rfl, rfl⟩ rfl rfl rfl rfl rfl (by kernel_rfl) Tryz.func3 (by kernel_rfl)
  (of_decide_eq_true (by kernel_rfl)) (by unfold Func.isWrapper; first | (rw [if_pos (by decide +kernel)]; kernel_rfl) | (rw [if_neg (by decide +kernel)]; exact ⟨rfl, rfl⟩))
  (fun os started H enc _ => advanceAnswers_lifted os started H enc)
end Go.Proofs.YtaoclefkknloiaaGreat
