/-
  NARROWER THAN 'FOR EVERY INPUT', by the rows' own cells (each row's printed sentence says how): GradientFalls: laid · GradientAnswers: laid.
  DERIVED. THE GIVEN ROWS OF THIS SEAT. 2 by the template 'for every input the law returns true; each argument reads behind the call as it read before'; 0 by the template 'total and deterministic' (their statements: YtkhcdkioehdndaaGreatDoorTotals.lean).
  GIVEN WITH THE SEED: the statements are not yours to turn. If you find one false, say at which input.
  Laid BY PROGRAM, IN A SANDBOX (cutbox-rows.mjs): the forced cells as the released guide's own fill.sh prints them over the translation 239e0430e8cca53c… (all of the seat's roots in one cut). By AI agents, Wed Nov 11 2026. No macro, syntax, notation, axiom, sorry.
-/
import Derived.Test.YtkhcdkioehdndaaGreatDoorChecked
import GoSem.Claim
import GoSem.ClaimJoined
import GoSem.ClaimMapViews
import Derived.JoinedTies
import Derived.KernelRfl
namespace Go.Proofs.YtkhcdkioehdndaaGreatDoor
/- THE CELL 'sum', in the pinned program and in every row, IS THE sha256 OF THE DUMP (.gsa) THAT YtkhcdkioehdndaaGreatDoorProg.lean LOADS. Nothing in Lean hashes anything: it is a label: what it is worth is what the hold of that sum in a sandbox is worth. -/
noncomputable def Tryz.pinned : Pinned := { name := "ytkhcdkioehdndaagreatdoor", sum := "239e0430e8cca53c5125b7c4eda71ebd2027510a0797a21c628264c4e2aed088", checked := Tryz.checked }
namespace Rows
def none {H : Type} : Left H := { results := [], args := [] }

/- WHAT THE LISTED PACKAGE-LEVEL VARIABLES READ AS WHEN THE CALL BEGINS. Each datum BY PROGRAM (the guide's laid-datum.mjs) off the statement by which the dump's own 'gosem.cut.vars' lays the variable. In a bare row this is a premise. The card (YtkhcdkioehdndaaGreatDoorCards.lean) ties it to the program's text. -/
def laid_batchline_product_spans {H : Type} : DataW H := .agg [.agg [.lit (.int .i64 400), .lit (.int .i64 1200)], .agg [.lit (.int .i64 0), .lit (.int .i64 2000)], .agg [.lit (.int .i64 0), .lit (.int .i64 5000)], .agg [.lit (.int .i64 1), .lit (.int .i64 2000)]]

/-- 'batchlinelaw19.GradientFalls': WHATEVER THE INPUT: true; the input reads as it did. -/
def gradientFallsSpec : ChangeSpec := { name := "gradientFalls", fn := fun _ => fun
  | [d1, d2, d3] => { results := [.lit (.bool true)], args := [d1, d2, d3] }
  | _ => none }
def gradientFallsRow : OpenClaim := { program := "ytkhcdkioehdndaagreatdoor", sum := "239e0430e8cca53c5125b7c4eda71ebd2027510a0797a21c628264c4e2aed088", func := "batchline/batchlinelaw19.GradientFalls", spec := "gradientFalls", unfollowed := true, recurses := true, named := ["batchline/product.spans"], apart := false, laid := [("batchline/product.spans", laid_batchline_product_spans)] }
def GradientFallsSaid : Prop := gradientFallsRow.holds Tryz.pinned (OpenSpec.ofChange gradientFallsSpec)

/-- ITS FALSE NEIGHBOUR: 'it returns false'. Refute it at one input. -/
def gradientFallsWrong : ChangeSpec := { name := "gradientFalls", fn := fun _ => fun
  | [d1, d2, d3] => { results := [.lit (.bool false)], args := [d1, d2, d3] }
  | _ => none }
def GradientFallsWrongFalsely : Prop := gradientFallsRow.holds Tryz.pinned (OpenSpec.ofChange gradientFallsWrong)

/-- 'batchlinelaw19.GradientAnswers': WHATEVER THE INPUT: true; the input reads as it did. -/
def gradientAnswersSpec : ChangeSpec := { name := "gradientAnswers", fn := fun _ => fun
  | [d1, d2, d3, d4, d5, d6, d7, d8] => { results := [.lit (.bool true)], args := [d1, d2, d3, d4, d5, d6, d7, d8] }
  | _ => none }
def gradientAnswersRow : OpenClaim := { program := "ytkhcdkioehdndaagreatdoor", sum := "239e0430e8cca53c5125b7c4eda71ebd2027510a0797a21c628264c4e2aed088", func := "batchline/batchlinelaw19.GradientAnswers", spec := "gradientAnswers", unfollowed := true, recurses := true, named := ["batchline/product.spans"], apart := false, laid := [("batchline/product.spans", laid_batchline_product_spans)] }
def GradientAnswersSaid : Prop := gradientAnswersRow.holds Tryz.pinned (OpenSpec.ofChange gradientAnswersSpec)

/-- ITS FALSE NEIGHBOUR: 'it returns false'. Refute it at one input. -/
def gradientAnswersWrong : ChangeSpec := { name := "gradientAnswers", fn := fun _ => fun
  | [d1, d2, d3, d4, d5, d6, d7, d8] => { results := [.lit (.bool false)], args := [d1, d2, d3, d4, d5, d6, d7, d8] }
  | _ => none }
def GradientAnswersWrongFalsely : Prop := gradientAnswersRow.holds Tryz.pinned (OpenSpec.ofChange gradientAnswersWrong)

/- THE SECOND FORM. 'bulk': how many values and letters a reading holds, each counted each time it is reached (what is shared counts as often as it is met; a slice's spare places count too). A statement '..UptoSaid' is the law's where the arguments, and the package variables that the reading takes, are together of bulk at most 1048576: NARROWER than '..Said'. Prove '..Said' where nothing that the law and all that it calls make is longer than what came in: it says more and counts as full. Else prove '..UptoSaid'. A law counts once. -/
mutual
def uptoBulk {H : Type} : DataW H → Nat
  | .lit (.string bytes) => bytes.length + 1
  | .lit _ => 1
  | .nil => 1
  | .ptr d => uptoBulk d + 1
  | .slice elems spare => uptoBulkAll elems + uptoBulkAll spare + 1
  | .agg parts => uptoBulkAll parts + 1
  | .iface _ d => uptoBulk d + 1
  | .map entries => uptoBulkEntries entries + 1
  | .held _ => 1
def uptoBulkAll {H : Type} : List (DataW H) → Nat
  | [] => 0
  | d :: r => uptoBulk d + uptoBulkAll r
def uptoBulkEntries {H : Type} : List (Lit × DataW H) → Nat
  | [] => 0
  | x :: r => uptoBulkEntry x + uptoBulkEntries r
def uptoBulkEntry {H : Type} : Lit × DataW H → Nat
  | (.string bytes, d) => bytes.length + uptoBulk d + 1
  | (_, d) => uptoBulk d + 1
 end
def uptoSmall : (H : Type) → List (DataW H) → Bool := fun _ ds => decide (uptoBulkAll ds ≤ 1048576)
def OpenSpec.upto (s : _root_.Go.ChangeSpec) : _root_.Go.OpenSpec := { _root_.Go.OpenSpec.ofChange s with cond := some uptoSmall }

/-- 'batchlinelaw19.GradientFalls', WHERE WHAT IT READS IS OF BULK AT MOST 1048576: true; the input reads as it did. -/
def gradientFallsUptoRow : OpenClaim := { program := "ytkhcdkioehdndaagreatdoor", sum := "239e0430e8cca53c5125b7c4eda71ebd2027510a0797a21c628264c4e2aed088", func := "batchline/batchlinelaw19.GradientFalls", spec := "gradientFalls", unfollowed := true, recurses := true, named := ["batchline/product.spans"], apart := false, laid := [("batchline/product.spans", laid_batchline_product_spans)], narrowed := true }
def GradientFallsUptoSaid : Prop := gradientFallsUptoRow.holds Tryz.pinned (OpenSpec.upto gradientFallsSpec)

/-- 'batchlinelaw19.GradientAnswers', WHERE WHAT IT READS IS OF BULK AT MOST 1048576: true; the input reads as it did. -/
def gradientAnswersUptoRow : OpenClaim := { program := "ytkhcdkioehdndaagreatdoor", sum := "239e0430e8cca53c5125b7c4eda71ebd2027510a0797a21c628264c4e2aed088", func := "batchline/batchlinelaw19.GradientAnswers", spec := "gradientAnswers", unfollowed := true, recurses := true, named := ["batchline/product.spans"], apart := false, laid := [("batchline/product.spans", laid_batchline_product_spans)], narrowed := true }
def GradientAnswersUptoSaid : Prop := gradientAnswersUptoRow.holds Tryz.pinned (OpenSpec.upto gradientAnswersSpec)

end Rows
end Go.Proofs.YtkhcdkioehdndaaGreatDoor
