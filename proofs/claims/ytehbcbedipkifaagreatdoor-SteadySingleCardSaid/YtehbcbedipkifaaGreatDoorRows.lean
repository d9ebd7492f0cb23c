/-
  NARROWER THAN 'FOR EVERY INPUT', by the rows' own cells (each row's printed sentence says how): SteadyAnswers: laid · SteadyKnows: laid · SteadyLinks: laid · SteadyRises: laid · SteadyBreaks: laid · SteadySingle: laid.
  DERIVED. THE GIVEN ROWS OF THIS SEAT. 6 by the template 'for every input the law returns true; each argument reads behind the call as it read before'; 0 by the template 'total and deterministic' (their statements: YtehbcbedipkifaaGreatDoorTotals.lean).
  GIVEN WITH THE SEED: the statements are not yours to turn. If you find one false, say at which input.
  Laid BY PROGRAM, IN A SANDBOX (cutbox-rows.mjs): the forced cells as the released guide's own fill.sh prints them over the translation c94f2884748e26d9… (all of the seat's roots in one cut). By AI agents, Wed Nov 11 2026. No macro, syntax, notation, axiom, sorry.
-/
import Derived.Test.YtehbcbedipkifaaGreatDoorChecked
import GoSem.Claim
import GoSem.ClaimJoined
import GoSem.ClaimMapViews
import Derived.JoinedTies
import Derived.KernelRfl
namespace Go.Proofs.YtehbcbedipkifaaGreatDoor
/- THE CELL 'sum', in the pinned program and in every row, IS THE sha256 OF THE DUMP (.gsa) THAT YtehbcbedipkifaaGreatDoorProg.lean LOADS. Nothing in Lean hashes anything: it is a label: what it is worth is what the hold of that sum in a sandbox is worth. -/
noncomputable def Tryz.pinned : Pinned := { name := "ytehbcbedipkifaagreatdoor", sum := "c94f2884748e26d9fb6d59aee188cde28dc62c27b48474e1d8f99a0a03077c26", checked := Tryz.checked }
namespace Rows
def none {H : Type} : Left H := { results := [], args := [] }

/- WHAT THE LISTED PACKAGE-LEVEL VARIABLES READ AS WHEN THE CALL BEGINS. Each datum BY PROGRAM (the guide's laid-datum.mjs) off the statement by which the dump's own 'gosem.cut.vars' lays the variable. In a bare row this is a premise. The card (YtehbcbedipkifaaGreatDoorCards.lean) ties it to the program's text. -/
def laid_batchline_product_spans {H : Type} : DataW H := .agg [.agg [.lit (.int .i64 400), .lit (.int .i64 1200)], .agg [.lit (.int .i64 0), .lit (.int .i64 2000)], .agg [.lit (.int .i64 0), .lit (.int .i64 5000)], .agg [.lit (.int .i64 1), .lit (.int .i64 2000)]]

/-- 'batchlinelaw21.SteadyAnswers': WHATEVER THE INPUT: true; the input reads as it did. -/
def steadyAnswersSpec : ChangeSpec := { name := "steadyAnswers", fn := fun _ => fun
  | [d1, d2, d3, d4, d5, d6] => { results := [.lit (.bool true)], args := [d1, d2, d3, d4, d5, d6] }
  | _ => none }
def steadyAnswersRow : OpenClaim := { program := "ytehbcbedipkifaagreatdoor", sum := "c94f2884748e26d9fb6d59aee188cde28dc62c27b48474e1d8f99a0a03077c26", func := "batchline/batchlinelaw21.SteadyAnswers", spec := "steadyAnswers", unfollowed := true, recurses := true, named := ["batchline/product.spans"], apart := false, laid := [("batchline/product.spans", laid_batchline_product_spans)] }
def SteadyAnswersSaid : Prop := steadyAnswersRow.holds Tryz.pinned (OpenSpec.ofChange steadyAnswersSpec)

/-- ITS FALSE NEIGHBOUR: 'it returns false'. Refute it at one input. -/
def steadyAnswersWrong : ChangeSpec := { name := "steadyAnswers", fn := fun _ => fun
  | [d1, d2, d3, d4, d5, d6] => { results := [.lit (.bool false)], args := [d1, d2, d3, d4, d5, d6] }
  | _ => none }
def SteadyAnswersWrongFalsely : Prop := steadyAnswersRow.holds Tryz.pinned (OpenSpec.ofChange steadyAnswersWrong)

/-- 'batchlinelaw21.SteadyKnows': WHATEVER THE INPUT: true; the input reads as it did. -/
def steadyKnowsSpec : ChangeSpec := { name := "steadyKnows", fn := fun _ => fun
  | [d] => { results := [.lit (.bool true)], args := [d] }
  | _ => none }
def steadyKnowsRow : OpenClaim := { program := "ytehbcbedipkifaagreatdoor", sum := "c94f2884748e26d9fb6d59aee188cde28dc62c27b48474e1d8f99a0a03077c26", func := "batchline/batchlinelaw21.SteadyKnows", spec := "steadyKnows", unfollowed := true, recurses := true, named := ["batchline/product.spans"], apart := false, laid := [("batchline/product.spans", laid_batchline_product_spans)] }
def SteadyKnowsSaid : Prop := steadyKnowsRow.holds Tryz.pinned (OpenSpec.ofChange steadyKnowsSpec)

/-- ITS FALSE NEIGHBOUR: 'it returns false'. Refute it at one input. -/
def steadyKnowsWrong : ChangeSpec := { name := "steadyKnows", fn := fun _ => fun
  | [d] => { results := [.lit (.bool false)], args := [d] }
  | _ => none }
def SteadyKnowsWrongFalsely : Prop := steadyKnowsRow.holds Tryz.pinned (OpenSpec.ofChange steadyKnowsWrong)

/-- 'batchlinelaw21.SteadyLinks': WHATEVER THE INPUT: true; the input reads as it did. -/
def steadyLinksSpec : ChangeSpec := { name := "steadyLinks", fn := fun _ => fun
  | [d] => { results := [.lit (.bool true)], args := [d] }
  | _ => none }
def steadyLinksRow : OpenClaim := { program := "ytehbcbedipkifaagreatdoor", sum := "c94f2884748e26d9fb6d59aee188cde28dc62c27b48474e1d8f99a0a03077c26", func := "batchline/batchlinelaw21.SteadyLinks", spec := "steadyLinks", unfollowed := true, recurses := true, named := ["batchline/product.spans"], apart := false, laid := [("batchline/product.spans", laid_batchline_product_spans)] }
def SteadyLinksSaid : Prop := steadyLinksRow.holds Tryz.pinned (OpenSpec.ofChange steadyLinksSpec)

/-- ITS FALSE NEIGHBOUR: 'it returns false'. Refute it at one input. -/
def steadyLinksWrong : ChangeSpec := { name := "steadyLinks", fn := fun _ => fun
  | [d] => { results := [.lit (.bool false)], args := [d] }
  | _ => none }
def SteadyLinksWrongFalsely : Prop := steadyLinksRow.holds Tryz.pinned (OpenSpec.ofChange steadyLinksWrong)

/-- 'batchlinelaw21.SteadyRises': WHATEVER THE INPUT: true; the input reads as it did. -/
def steadyRisesSpec : ChangeSpec := { name := "steadyRises", fn := fun _ => fun
  | [d1, d2, d3] => { results := [.lit (.bool true)], args := [d1, d2, d3] }
  | _ => none }
def steadyRisesRow : OpenClaim := { program := "ytehbcbedipkifaagreatdoor", sum := "c94f2884748e26d9fb6d59aee188cde28dc62c27b48474e1d8f99a0a03077c26", func := "batchline/batchlinelaw21.SteadyRises", spec := "steadyRises", unfollowed := true, recurses := true, named := ["batchline/product.spans"], apart := false, laid := [("batchline/product.spans", laid_batchline_product_spans)] }
def SteadyRisesSaid : Prop := steadyRisesRow.holds Tryz.pinned (OpenSpec.ofChange steadyRisesSpec)

/-- ITS FALSE NEIGHBOUR: 'it returns false'. Refute it at one input. -/
def steadyRisesWrong : ChangeSpec := { name := "steadyRises", fn := fun _ => fun
  | [d1, d2, d3] => { results := [.lit (.bool false)], args := [d1, d2, d3] }
  | _ => none }
def SteadyRisesWrongFalsely : Prop := steadyRisesRow.holds Tryz.pinned (OpenSpec.ofChange steadyRisesWrong)

/-- 'batchlinelaw21.SteadyBreaks': WHATEVER THE INPUT: true; the input reads as it did. -/
def steadyBreaksSpec : ChangeSpec := { name := "steadyBreaks", fn := fun _ => fun
  | [d1, d2] => { results := [.lit (.bool true)], args := [d1, d2] }
  | _ => none }
def steadyBreaksRow : OpenClaim := { program := "ytehbcbedipkifaagreatdoor", sum := "c94f2884748e26d9fb6d59aee188cde28dc62c27b48474e1d8f99a0a03077c26", func := "batchline/batchlinelaw21.SteadyBreaks", spec := "steadyBreaks", unfollowed := true, recurses := true, named := ["batchline/product.spans"], apart := false, laid := [("batchline/product.spans", laid_batchline_product_spans)] }
def SteadyBreaksSaid : Prop := steadyBreaksRow.holds Tryz.pinned (OpenSpec.ofChange steadyBreaksSpec)

/-- ITS FALSE NEIGHBOUR: 'it returns false'. Refute it at one input. -/
def steadyBreaksWrong : ChangeSpec := { name := "steadyBreaks", fn := fun _ => fun
  | [d1, d2] => { results := [.lit (.bool false)], args := [d1, d2] }
  | _ => none }
def SteadyBreaksWrongFalsely : Prop := steadyBreaksRow.holds Tryz.pinned (OpenSpec.ofChange steadyBreaksWrong)

/-- 'batchlinelaw21.SteadySingle': WHATEVER THE INPUT: true; the input reads as it did. -/
def steadySingleSpec : ChangeSpec := { name := "steadySingle", fn := fun _ => fun
  | [d1, d2, d3] => { results := [.lit (.bool true)], args := [d1, d2, d3] }
  | _ => none }
def steadySingleRow : OpenClaim := { program := "ytehbcbedipkifaagreatdoor", sum := "c94f2884748e26d9fb6d59aee188cde28dc62c27b48474e1d8f99a0a03077c26", func := "batchline/batchlinelaw21.SteadySingle", spec := "steadySingle", unfollowed := true, recurses := true, named := ["batchline/product.spans"], apart := false, laid := [("batchline/product.spans", laid_batchline_product_spans)] }
def SteadySingleSaid : Prop := steadySingleRow.holds Tryz.pinned (OpenSpec.ofChange steadySingleSpec)

/-- ITS FALSE NEIGHBOUR: 'it returns false'. Refute it at one input. -/
def steadySingleWrong : ChangeSpec := { name := "steadySingle", fn := fun _ => fun
  | [d1, d2, d3] => { results := [.lit (.bool false)], args := [d1, d2, d3] }
  | _ => none }
def SteadySingleWrongFalsely : Prop := steadySingleRow.holds Tryz.pinned (OpenSpec.ofChange steadySingleWrong)

/- THE SECOND FORM. 'bulk': how many values and letters a reading holds, each counted each time it is reached (what is shared counts as often as it is met; a slice's spare places count too). A statement '..UptoSaid' is the law's where the arguments, and the package variables that the reading takes, are together of bulk at most 1048576: NARROWER than '..Said'. Prove '..Said' where nothing that the law and all that it calls make is longer than what came in: it says more and counts as full. Else prove '..UptoSaid'. A law counts once. -/
mutual
def uptoBulk {H : Type} : DataW H → Nat
  | .lit (.string bytes) => bytes.length + 1
  | .lit _ => 1
  | .nil => 1
  | .ptr d => uptoBulk d + 1
  | .slice elems spare => uptoBulkAll elems + uptoBulkAll spare + 1
  | .agg parts => uptoBulkAll parts + 1
  | .iface _ d => uptoBulk d + 1
  | .map entries => uptoBulkEntries entries + 1
  | .held _ => 1
def uptoBulkAll {H : Type} : List (DataW H) → Nat
  | [] => 0
  | d :: r => uptoBulk d + uptoBulkAll r
def uptoBulkEntries {H : Type} : List (Lit × DataW H) → Nat
  | [] => 0
  | x :: r => uptoBulkEntry x + uptoBulkEntries r
def uptoBulkEntry {H : Type} : Lit × DataW H → Nat
  | (.string bytes, d) => bytes.length + uptoBulk d + 1
  | (_, d) => uptoBulk d + 1
 end
def uptoSmall : (H : Type) → List (DataW H) → Bool := fun _ ds => decide (uptoBulkAll ds ≤ 1048576)
def OpenSpec.upto (s : _root_.Go.ChangeSpec) : _root_.Go.OpenSpec := { _root_.Go.OpenSpec.ofChange s with cond := some uptoSmall }

/-- 'batchlinelaw21.SteadyAnswers', WHERE WHAT IT READS IS OF BULK AT MOST 1048576: true; the input reads as it did. -/
def steadyAnswersUptoRow : OpenClaim := { program := "ytehbcbedipkifaagreatdoor", sum := "c94f2884748e26d9fb6d59aee188cde28dc62c27b48474e1d8f99a0a03077c26", func := "batchline/batchlinelaw21.SteadyAnswers", spec := "steadyAnswers", unfollowed := true, recurses := true, named := ["batchline/product.spans"], apart := false, laid := [("batchline/product.spans", laid_batchline_product_spans)], narrowed := true }
def SteadyAnswersUptoSaid : Prop := steadyAnswersUptoRow.holds Tryz.pinned (OpenSpec.upto steadyAnswersSpec)

/-- 'batchlinelaw21.SteadyKnows', WHERE WHAT IT READS IS OF BULK AT MOST 1048576: true; the input reads as it did. -/
def steadyKnowsUptoRow : OpenClaim := { program := "ytehbcbedipkifaagreatdoor", sum := "c94f2884748e26d9fb6d59aee188cde28dc62c27b48474e1d8f99a0a03077c26", func := "batchline/batchlinelaw21.SteadyKnows", spec := "steadyKnows", unfollowed := true, recurses := true, named := ["batchline/product.spans"], apart := false, laid := [("batchline/product.spans", laid_batchline_product_spans)], narrowed := true }
def SteadyKnowsUptoSaid : Prop := steadyKnowsUptoRow.holds Tryz.pinned (OpenSpec.upto steadyKnowsSpec)

/-- 'batchlinelaw21.SteadyLinks', WHERE WHAT IT READS IS OF BULK AT MOST 1048576: true; the input reads as it did. -/
def steadyLinksUptoRow : OpenClaim := { program := "ytehbcbedipkifaagreatdoor", sum := "c94f2884748e26d9fb6d59aee188cde28dc62c27b48474e1d8f99a0a03077c26", func := "batchline/batchlinelaw21.SteadyLinks", spec := "steadyLinks", unfollowed := true, recurses := true, named := ["batchline/product.spans"], apart := false, laid := [("batchline/product.spans", laid_batchline_product_spans)], narrowed := true }
def SteadyLinksUptoSaid : Prop := steadyLinksUptoRow.holds Tryz.pinned (OpenSpec.upto steadyLinksSpec)

/-- 'batchlinelaw21.SteadyRises', WHERE WHAT IT READS IS OF BULK AT MOST 1048576: true; the input reads as it did. -/
def steadyRisesUptoRow : OpenClaim := { program := "ytehbcbedipkifaagreatdoor", sum := "c94f2884748e26d9fb6d59aee188cde28dc62c27b48474e1d8f99a0a03077c26", func := "batchline/batchlinelaw21.SteadyRises", spec := "steadyRises", unfollowed := true, recurses := true, named := ["batchline/product.spans"], apart := false, laid := [("batchline/product.spans", laid_batchline_product_spans)], narrowed := true }
def SteadyRisesUptoSaid : Prop := steadyRisesUptoRow.holds Tryz.pinned (OpenSpec.upto steadyRisesSpec)

/-- 'batchlinelaw21.SteadyBreaks', WHERE WHAT IT READS IS OF BULK AT MOST 1048576: true; the input reads as it did. -/
def steadyBreaksUptoRow : OpenClaim := { program := "ytehbcbedipkifaagreatdoor", sum := "c94f2884748e26d9fb6d59aee188cde28dc62c27b48474e1d8f99a0a03077c26", func := "batchline/batchlinelaw21.SteadyBreaks", spec := "steadyBreaks", unfollowed := true, recurses := true, named := ["batchline/product.spans"], apart := false, laid := [("batchline/product.spans", laid_batchline_product_spans)], narrowed := true }
def SteadyBreaksUptoSaid : Prop := steadyBreaksUptoRow.holds Tryz.pinned (OpenSpec.upto steadyBreaksSpec)

/-- 'batchlinelaw21.SteadySingle', WHERE WHAT IT READS IS OF BULK AT MOST 1048576: true; the input reads as it did. -/
def steadySingleUptoRow : OpenClaim := { program := "ytehbcbedipkifaagreatdoor", sum := "c94f2884748e26d9fb6d59aee188cde28dc62c27b48474e1d8f99a0a03077c26", func := "batchline/batchlinelaw21.SteadySingle", spec := "steadySingle", unfollowed := true, recurses := true, named := ["batchline/product.spans"], apart := false, laid := [("batchline/product.spans", laid_batchline_product_spans)], narrowed := true }
def SteadySingleUptoSaid : Prop := steadySingleUptoRow.holds Tryz.pinned (OpenSpec.upto steadySingleSpec)

end Rows
end Go.Proofs.YtehbcbedipkifaaGreatDoor
