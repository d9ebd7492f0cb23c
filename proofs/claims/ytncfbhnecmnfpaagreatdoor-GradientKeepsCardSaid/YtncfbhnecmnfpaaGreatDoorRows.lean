/-
  NARROWER THAN 'FOR EVERY INPUT', by the rows' own cells (each row's printed sentence says how): GradientEncloses: laid · GradientFalls: laid · GradientKeeps: laid · GradientTurns: laid · GradientAnswers: laid · GradientBreaks: laid.
  DERIVED. THE GIVEN ROWS OF THIS SEAT. 6 by the template 'for every input the law returns true; each argument reads behind the call as it read before'; 0 by the template 'total and deterministic' (their statements: YtncfbhnecmnfpaaGreatDoorTotals.lean).
  GIVEN WITH THE SEED: the statements are not yours to turn. If you find one false, say at which input.
  Laid BY PROGRAM, IN A SANDBOX (cutbox-rows.mjs): the forced cells as the released guide's own fill.sh prints them over the translation af8658959f0d3fda… (all of the seat's roots in one cut). By AI agents, Wed Nov 11 2026. No macro, syntax, notation, axiom, sorry.
-/
import Derived.Test.YtncfbhnecmnfpaaGreatDoorChecked
import GoSem.Claim
import GoSem.ClaimJoined
import GoSem.ClaimMapViews
import Derived.JoinedTies
import Derived.KernelRfl
namespace Go.Proofs.YtncfbhnecmnfpaaGreatDoor
/- THE CELL 'sum', in the pinned program and in every row, IS THE sha256 OF THE DUMP (.gsa) THAT YtncfbhnecmnfpaaGreatDoorProg.lean LOADS. Nothing in Lean hashes anything: it is a label: what it is worth is what the hold of that sum in a sandbox is worth. -/
noncomputable def Tryz.pinned : Pinned := { name := "ytncfbhnecmnfpaagreatdoor", sum := "af8658959f0d3fdab75ed5124f03b41da900d5f41832859fc4a49dc5caf9b4dd", checked := Tryz.checked }
namespace Rows
def none {H : Type} : Left H := { results := [], args := [] }

/- WHAT THE LISTED PACKAGE-LEVEL VARIABLES READ AS WHEN THE CALL BEGINS. Each datum BY PROGRAM (the guide's laid-datum.mjs) off the statement by which the dump's own 'gosem.cut.vars' lays the variable. In a bare row this is a premise. The card (YtncfbhnecmnfpaaGreatDoorCards.lean) ties it to the program's text. -/
def laid_batchline_product_spans {H : Type} : DataW H := .agg [.agg [.lit (.int .i64 400), .lit (.int .i64 1200)], .agg [.lit (.int .i64 0), .lit (.int .i64 2000)], .agg [.lit (.int .i64 0), .lit (.int .i64 5000)], .agg [.lit (.int .i64 1), .lit (.int .i64 2000)]]

/-- 'batchlinelaw19.GradientEncloses': WHATEVER THE INPUT: true; the input reads as it did. -/
def gradientEnclosesSpec : ChangeSpec := { name := "gradientEncloses", fn := fun _ => fun
  | [d1, d2, d3] => { results := [.lit (.bool true)], args := [d1, d2, d3] }
  | _ => none }
def gradientEnclosesRow : OpenClaim := { program := "ytncfbhnecmnfpaagreatdoor", sum := "af8658959f0d3fdab75ed5124f03b41da900d5f41832859fc4a49dc5caf9b4dd", func := "batchline/batchlinelaw19.GradientEncloses", spec := "gradientEncloses", unfollowed := true, recurses := true, named := ["batchline/product.spans"], apart := false, laid := [("batchline/product.spans", laid_batchline_product_spans)] }
def GradientEnclosesSaid : Prop := gradientEnclosesRow.holds Tryz.pinned (OpenSpec.ofChange gradientEnclosesSpec)

/-- ITS FALSE NEIGHBOUR: 'it returns false'. Refute it at one input. -/
def gradientEnclosesWrong : ChangeSpec := { name := "gradientEncloses", fn := fun _ => fun
  | [d1, d2, d3] => { results := [.lit (.bool false)], args := [d1, d2, d3] }
  | _ => none }
def GradientEnclosesWrongFalsely : Prop := gradientEnclosesRow.holds Tryz.pinned (OpenSpec.ofChange gradientEnclosesWrong)

/-- 'batchlinelaw19.GradientFalls': WHATEVER THE INPUT: true; the input reads as it did. -/
def gradientFallsSpec : ChangeSpec := { name := "gradientFalls", fn := fun _ => fun
  | [d1, d2, d3] => { results := [.lit (.bool true)], args := [d1, d2, d3] }
  | _ => none }
def gradientFallsRow : OpenClaim := { program := "ytncfbhnecmnfpaagreatdoor", sum := "af8658959f0d3fdab75ed5124f03b41da900d5f41832859fc4a49dc5caf9b4dd", func := "batchline/batchlinelaw19.GradientFalls", spec := "gradientFalls", unfollowed := true, recurses := true, named := ["batchline/product.spans"], apart := false, laid := [("batchline/product.spans", laid_batchline_product_spans)] }
def GradientFallsSaid : Prop := gradientFallsRow.holds Tryz.pinned (OpenSpec.ofChange gradientFallsSpec)

/-- ITS FALSE NEIGHBOUR: 'it returns false'. Refute it at one input. -/
def gradientFallsWrong : ChangeSpec := { name := "gradientFalls", fn := fun _ => fun
  | [d1, d2, d3] => { results := [.lit (.bool false)], args := [d1, d2, d3] }
  | _ => none }
def GradientFallsWrongFalsely : Prop := gradientFallsRow.holds Tryz.pinned (OpenSpec.ofChange gradientFallsWrong)

/-- 'batchlinelaw19.GradientKeeps': WHATEVER THE INPUT: true; the input reads as it did. -/
def gradientKeepsSpec : ChangeSpec := { name := "gradientKeeps", fn := fun _ => fun
  | [d1, d2] => { results := [.lit (.bool true)], args := [d1, d2] }
  | _ => none }
def gradientKeepsRow : OpenClaim := { program := "ytncfbhnecmnfpaagreatdoor", sum := "af8658959f0d3fdab75ed5124f03b41da900d5f41832859fc4a49dc5caf9b4dd", func := "batchline/batchlinelaw19.GradientKeeps", spec := "gradientKeeps", unfollowed := true, recurses := true, named := ["batchline/product.spans"], apart := false, laid := [("batchline/product.spans", laid_batchline_product_spans)] }
def GradientKeepsSaid : Prop := gradientKeepsRow.holds Tryz.pinned (OpenSpec.ofChange gradientKeepsSpec)

/-- ITS FALSE NEIGHBOUR: 'it returns false'. Refute it at one input. -/
def gradientKeepsWrong : ChangeSpec := { name := "gradientKeeps", fn := fun _ => fun
  | [d1, d2] => { results := [.lit (.bool false)], args := [d1, d2] }
  | _ => none }
def GradientKeepsWrongFalsely : Prop := gradientKeepsRow.holds Tryz.pinned (OpenSpec.ofChange gradientKeepsWrong)

/-- 'batchlinelaw19.GradientTurns': WHATEVER THE INPUT: true; the input reads as it did. -/
def gradientTurnsSpec : ChangeSpec := { name := "gradientTurns", fn := fun _ => fun
  | [d1, d2] => { results := [.lit (.bool true)], args := [d1, d2] }
  | _ => none }
def gradientTurnsRow : OpenClaim := { program := "ytncfbhnecmnfpaagreatdoor", sum := "af8658959f0d3fdab75ed5124f03b41da900d5f41832859fc4a49dc5caf9b4dd", func := "batchline/batchlinelaw19.GradientTurns", spec := "gradientTurns", unfollowed := true, recurses := true, named := ["batchline/product.spans"], apart := false, laid := [("batchline/product.spans", laid_batchline_product_spans)] }
def GradientTurnsSaid : Prop := gradientTurnsRow.holds Tryz.pinned (OpenSpec.ofChange gradientTurnsSpec)

/-- ITS FALSE NEIGHBOUR: 'it returns false'. Refute it at one input. -/
def gradientTurnsWrong : ChangeSpec := { name := "gradientTurns", fn := fun _ => fun
  | [d1, d2] => { results := [.lit (.bool false)], args := [d1, d2] }
  | _ => none }
def GradientTurnsWrongFalsely : Prop := gradientTurnsRow.holds Tryz.pinned (OpenSpec.ofChange gradientTurnsWrong)

/-- 'batchlinelaw19.GradientAnswers': WHATEVER THE INPUT: true; the input reads as it did. -/
def gradientAnswersSpec : ChangeSpec := { name := "gradientAnswers", fn := fun _ => fun
  | [d1, d2, d3, d4, d5, d6, d7, d8] => { results := [.lit (.bool true)], args := [d1, d2, d3, d4, d5, d6, d7, d8] }
  | _ => none }
def gradientAnswersRow : OpenClaim := { program := "ytncfbhnecmnfpaagreatdoor", sum := "af8658959f0d3fdab75ed5124f03b41da900d5f41832859fc4a49dc5caf9b4dd", func := "batchline/batchlinelaw19.GradientAnswers", spec := "gradientAnswers", unfollowed := true, recurses := true, named := ["batchline/product.spans"], apart := false, laid := [("batchline/product.spans", laid_batchline_product_spans)] }
def GradientAnswersSaid : Prop := gradientAnswersRow.holds Tryz.pinned (OpenSpec.ofChange gradientAnswersSpec)

/-- ITS FALSE NEIGHBOUR: 'it returns false'. Refute it at one input. -/
def gradientAnswersWrong : ChangeSpec := { name := "gradientAnswers", fn := fun _ => fun
  | [d1, d2, d3, d4, d5, d6, d7, d8] => { results := [.lit (.bool false)], args := [d1, d2, d3, d4, d5, d6, d7, d8] }
  | _ => none }
def GradientAnswersWrongFalsely : Prop := gradientAnswersRow.holds Tryz.pinned (OpenSpec.ofChange gradientAnswersWrong)

/-- 'batchlinelaw19.GradientBreaks': WHATEVER THE INPUT: true; the input reads as it did. -/
def gradientBreaksSpec : ChangeSpec := { name := "gradientBreaks", fn := fun _ => fun
  | [d] => { results := [.lit (.bool true)], args := [d] }
  | _ => none }
def gradientBreaksRow : OpenClaim := { program := "ytncfbhnecmnfpaagreatdoor", sum := "af8658959f0d3fdab75ed5124f03b41da900d5f41832859fc4a49dc5caf9b4dd", func := "batchline/batchlinelaw19.GradientBreaks", spec := "gradientBreaks", unfollowed := true, recurses := true, named := ["batchline/product.spans"], apart := false, laid := [("batchline/product.spans", laid_batchline_product_spans)] }
def GradientBreaksSaid : Prop := gradientBreaksRow.holds Tryz.pinned (OpenSpec.ofChange gradientBreaksSpec)

/-- ITS FALSE NEIGHBOUR: 'it returns false'. Refute it at one input. -/
def gradientBreaksWrong : ChangeSpec := { name := "gradientBreaks", fn := fun _ => fun
  | [d] => { results := [.lit (.bool false)], args := [d] }
  | _ => none }
def GradientBreaksWrongFalsely : Prop := gradientBreaksRow.holds Tryz.pinned (OpenSpec.ofChange gradientBreaksWrong)

/- THE SECOND FORM. 'bulk': how many values and letters a reading holds, each counted each time it is reached (what is shared counts as often as it is met; a slice's spare places count too). A statement '..UptoSaid' is the law's where the arguments, and the package variables that the reading takes, are together of bulk at most 1048576: NARROWER than '..Said'. Prove '..Said' where nothing that the law and all that it calls make is longer than what came in: it says more and counts as full. Else prove '..UptoSaid'. A law counts once. -/
mutual
def uptoBulk {H : Type} : DataW H → Nat
  | .lit (.string bytes) => bytes.length + 1
  | .lit _ => 1
  | .nil => 1
  | .ptr d => uptoBulk d + 1
  | .slice elems spare => uptoBulkAll elems + uptoBulkAll spare + 1
  | .agg parts => uptoBulkAll parts + 1
  | .iface _ d => uptoBulk d + 1
  | .map entries => uptoBulkEntries entries + 1
  | .held _ => 1
def uptoBulkAll {H : Type} : List (DataW H) → Nat
  | [] => 0
  | d :: r => uptoBulk d + uptoBulkAll r
def uptoBulkEntries {H : Type} : List (Lit × DataW H) → Nat
  | [] => 0
  | x :: r => uptoBulkEntry x + uptoBulkEntries r
def uptoBulkEntry {H : Type} : Lit × DataW H → Nat
  | (.string bytes, d) => bytes.length + uptoBulk d + 1
  | (_, d) => uptoBulk d + 1
 end
def uptoSmall : (H : Type) → List (DataW H) → Bool := fun _ ds => decide (uptoBulkAll ds ≤ 1048576)
def OpenSpec.upto (s : _root_.Go.ChangeSpec) : _root_.Go.OpenSpec := { _root_.Go.OpenSpec.ofChange s with cond := some uptoSmall }

/-- 'batchlinelaw19.GradientEncloses', WHERE WHAT IT READS IS OF BULK AT MOST 1048576: true; the input reads as it did. -/
def gradientEnclosesUptoRow : OpenClaim := { program := "ytncfbhnecmnfpaagreatdoor", sum := "af8658959f0d3fdab75ed5124f03b41da900d5f41832859fc4a49dc5caf9b4dd", func := "batchline/batchlinelaw19.GradientEncloses", spec := "gradientEncloses", unfollowed := true, recurses := true, named := ["batchline/product.spans"], apart := false, laid := [("batchline/product.spans", laid_batchline_product_spans)], narrowed := true }
def GradientEnclosesUptoSaid : Prop := gradientEnclosesUptoRow.holds Tryz.pinned (OpenSpec.upto gradientEnclosesSpec)

/-- 'batchlinelaw19.GradientFalls', WHERE WHAT IT READS IS OF BULK AT MOST 1048576: true; the input reads as it did. -/
def gradientFallsUptoRow : OpenClaim := { program := "ytncfbhnecmnfpaagreatdoor", sum := "af8658959f0d3fdab75ed5124f03b41da900d5f41832859fc4a49dc5caf9b4dd", func := "batchline/batchlinelaw19.GradientFalls", spec := "gradientFalls", unfollowed := true, recurses := true, named := ["batchline/product.spans"], apart := false, laid := [("batchline/product.spans", laid_batchline_product_spans)], narrowed := true }
def GradientFallsUptoSaid : Prop := gradientFallsUptoRow.holds Tryz.pinned (OpenSpec.upto gradientFallsSpec)

/-- 'batchlinelaw19.GradientKeeps', WHERE WHAT IT READS IS OF BULK AT MOST 1048576: true; the input reads as it did. -/
def gradientKeepsUptoRow : OpenClaim := { program := "ytncfbhnecmnfpaagreatdoor", sum := "af8658959f0d3fdab75ed5124f03b41da900d5f41832859fc4a49dc5caf9b4dd", func := "batchline/batchlinelaw19.GradientKeeps", spec := "gradientKeeps", unfollowed := true, recurses := true, named := ["batchline/product.spans"], apart := false, laid := [("batchline/product.spans", laid_batchline_product_spans)], narrowed := true }
def GradientKeepsUptoSaid : Prop := gradientKeepsUptoRow.holds Tryz.pinned (OpenSpec.upto gradientKeepsSpec)

/-- 'batchlinelaw19.GradientTurns', WHERE WHAT IT READS IS OF BULK AT MOST 1048576: true; the input reads as it did. -/
def gradientTurnsUptoRow : OpenClaim := { program := "ytncfbhnecmnfpaagreatdoor", sum := "af8658959f0d3fdab75ed5124f03b41da900d5f41832859fc4a49dc5caf9b4dd", func := "batchline/batchlinelaw19.GradientTurns", spec := "gradientTurns", unfollowed := true, recurses := true, named := ["batchline/product.spans"], apart := false, laid := [("batchline/product.spans", laid_batchline_product_spans)], narrowed := true }
def GradientTurnsUptoSaid : Prop := gradientTurnsUptoRow.holds Tryz.pinned (OpenSpec.upto gradientTurnsSpec)

/-- 'batchlinelaw19.GradientAnswers', WHERE WHAT IT READS IS OF BULK AT MOST 1048576: true; the input reads as it did. -/
def gradientAnswersUptoRow : OpenClaim := { program := "ytncfbhnecmnfpaagreatdoor", sum := "af8658959f0d3fdab75ed5124f03b41da900d5f41832859fc4a49dc5caf9b4dd", func := "batchline/batchlinelaw19.GradientAnswers", spec := "gradientAnswers", unfollowed := true, recurses := true, named := ["batchline/product.spans"], apart := false, laid := [("batchline/product.spans", laid_batchline_product_spans)], narrowed := true }
def GradientAnswersUptoSaid : Prop := gradientAnswersUptoRow.holds Tryz.pinned (OpenSpec.upto gradientAnswersSpec)

/-- 'batchlinelaw19.GradientBreaks', WHERE WHAT IT READS IS OF BULK AT MOST 1048576: true; the input reads as it did. -/
def gradientBreaksUptoRow : OpenClaim := { program := "ytncfbhnecmnfpaagreatdoor", sum := "af8658959f0d3fdab75ed5124f03b41da900d5f41832859fc4a49dc5caf9b4dd", func := "batchline/batchlinelaw19.GradientBreaks", spec := "gradientBreaks", unfollowed := true, recurses := true, named := ["batchline/product.spans"], apart := false, laid := [("batchline/product.spans", laid_batchline_product_spans)], narrowed := true }
def GradientBreaksUptoSaid : Prop := gradientBreaksUptoRow.holds Tryz.pinned (OpenSpec.upto gradientBreaksSpec)

end Rows
end Go.Proofs.YtncfbhnecmnfpaaGreatDoor
