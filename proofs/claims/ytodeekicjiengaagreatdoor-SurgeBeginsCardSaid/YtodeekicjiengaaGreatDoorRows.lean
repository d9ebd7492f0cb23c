/-
  NARROWER THAN 'FOR EVERY INPUT', by the rows' own cells (each row's printed sentence says how): SurgeBegins: laid · SurgeSingle: laid · SurgeApart: laid.
  DERIVED. THE GIVEN ROWS OF THIS SEAT. 3 by the template 'for every input the law returns true; each argument reads behind the call as it read before'; 0 by the template 'total and deterministic' (their statements: YtodeekicjiengaaGreatDoorTotals.lean).
  GIVEN WITH THE SEED: the statements are not yours to turn. If you find one false, say at which input.
  Laid BY PROGRAM, IN A SANDBOX (cutbox-rows.mjs): the forced cells as the released guide's own fill.sh prints them over the translation 1f4bce2a095c98d8… (all of the seat's roots in one cut). By AI agents, Wed Nov 11 2026. No macro, syntax, notation, axiom, sorry.
-/
import Derived.Test.YtodeekicjiengaaGreatDoorChecked
import GoSem.Claim
import GoSem.ClaimJoined
import GoSem.ClaimMapViews
import Derived.JoinedTies
import Derived.KernelRfl
namespace Go.Proofs.YtodeekicjiengaaGreatDoor
/- THE CELL 'sum', in the pinned program and in every row, IS THE sha256 OF THE DUMP (.gsa) THAT YtodeekicjiengaaGreatDoorProg.lean LOADS. Nothing in Lean hashes anything: it is a label: what it is worth is what the hold of that sum in a sandbox is worth. -/
noncomputable def Tryz.pinned : Pinned := { name := "ytodeekicjiengaagreatdoor", sum := "1f4bce2a095c98d8a9b59e1e42e8c2f852292db9442d6b8dfec6afb0feb98391", checked := Tryz.checked }
namespace Rows
def none {H : Type} : Left H := { results := [], args := [] }

/- WHAT THE LISTED PACKAGE-LEVEL VARIABLES READ AS WHEN THE CALL BEGINS. Each datum BY PROGRAM (the guide's laid-datum.mjs) off the statement by which the dump's own 'gosem.cut.vars' lays the variable. In a bare row this is a premise. The card (YtodeekicjiengaaGreatDoorCards.lean) ties it to the program's text. -/
def laid_batchline_product_spans {H : Type} : DataW H := .agg [.agg [.lit (.int .i64 400), .lit (.int .i64 1200)], .agg [.lit (.int .i64 0), .lit (.int .i64 2000)], .agg [.lit (.int .i64 0), .lit (.int .i64 5000)], .agg [.lit (.int .i64 1), .lit (.int .i64 2000)]]

/-- 'batchlinelaw22.SurgeBegins': WHATEVER THE INPUT: true; the input reads as it did. -/
def surgeBeginsSpec : ChangeSpec := { name := "surgeBegins", fn := fun _ => fun
  | [d1, d2, d3] => { results := [.lit (.bool true)], args := [d1, d2, d3] }
  | _ => none }
def surgeBeginsRow : OpenClaim := { program := "ytodeekicjiengaagreatdoor", sum := "1f4bce2a095c98d8a9b59e1e42e8c2f852292db9442d6b8dfec6afb0feb98391", func := "batchline/batchlinelaw22.SurgeBegins", spec := "surgeBegins", unfollowed := true, recurses := true, named := ["batchline/product.spans"], apart := false, laid := [("batchline/product.spans", laid_batchline_product_spans)] }
def SurgeBeginsSaid : Prop := surgeBeginsRow.holds Tryz.pinned (OpenSpec.ofChange surgeBeginsSpec)

/-- ITS FALSE NEIGHBOUR: 'it returns false'. Refute it at one input. -/
def surgeBeginsWrong : ChangeSpec := { name := "surgeBegins", fn := fun _ => fun
  | [d1, d2, d3] => { results := [.lit (.bool false)], args := [d1, d2, d3] }
  | _ => none }
def SurgeBeginsWrongFalsely : Prop := surgeBeginsRow.holds Tryz.pinned (OpenSpec.ofChange surgeBeginsWrong)

/-- 'batchlinelaw22.SurgeSingle': WHATEVER THE INPUT: true; the input reads as it did. -/
def surgeSingleSpec : ChangeSpec := { name := "surgeSingle", fn := fun _ => fun
  | [d1, d2] => { results := [.lit (.bool true)], args := [d1, d2] }
  | _ => none }
def surgeSingleRow : OpenClaim := { program := "ytodeekicjiengaagreatdoor", sum := "1f4bce2a095c98d8a9b59e1e42e8c2f852292db9442d6b8dfec6afb0feb98391", func := "batchline/batchlinelaw22.SurgeSingle", spec := "surgeSingle", unfollowed := true, recurses := true, named := ["batchline/product.spans"], apart := false, laid := [("batchline/product.spans", laid_batchline_product_spans)] }
def SurgeSingleSaid : Prop := surgeSingleRow.holds Tryz.pinned (OpenSpec.ofChange surgeSingleSpec)

/-- ITS FALSE NEIGHBOUR: 'it returns false'. Refute it at one input. -/
def surgeSingleWrong : ChangeSpec := { name := "surgeSingle", fn := fun _ => fun
  | [d1, d2] => { results := [.lit (.bool false)], args := [d1, d2] }
  | _ => none }
def SurgeSingleWrongFalsely : Prop := surgeSingleRow.holds Tryz.pinned (OpenSpec.ofChange surgeSingleWrong)

/-- 'batchlinelaw22.SurgeApart': WHATEVER THE INPUT: true; the input reads as it did. -/
def surgeApartSpec : ChangeSpec := { name := "surgeApart", fn := fun _ => fun
  | [d] => { results := [.lit (.bool true)], args := [d] }
  | _ => none }
def surgeApartRow : OpenClaim := { program := "ytodeekicjiengaagreatdoor", sum := "1f4bce2a095c98d8a9b59e1e42e8c2f852292db9442d6b8dfec6afb0feb98391", func := "batchline/batchlinelaw22.SurgeApart", spec := "surgeApart", unfollowed := true, recurses := true, named := ["batchline/product.spans"], apart := false, laid := [("batchline/product.spans", laid_batchline_product_spans)] }
def SurgeApartSaid : Prop := surgeApartRow.holds Tryz.pinned (OpenSpec.ofChange surgeApartSpec)

/-- ITS FALSE NEIGHBOUR: 'it returns false'. Refute it at one input. -/
def surgeApartWrong : ChangeSpec := { name := "surgeApart", fn := fun _ => fun
  | [d] => { results := [.lit (.bool false)], args := [d] }
  | _ => none }
def SurgeApartWrongFalsely : Prop := surgeApartRow.holds Tryz.pinned (OpenSpec.ofChange surgeApartWrong)

/- THE SECOND FORM. 'bulk': how many values and letters a reading holds, each counted each time it is reached (what is shared counts as often as it is met; a slice's spare places count too). A statement '..UptoSaid' is the law's where the arguments, and the package variables that the reading takes, are together of bulk at most 1048576: NARROWER than '..Said'. Prove '..Said' where nothing that the law and all that it calls make is longer than what came in: it says more and counts as full. Else prove '..UptoSaid'. A law counts once. -/
mutual
def uptoBulk {H : Type} : DataW H → Nat
  | .lit (.string bytes) => bytes.length + 1
  | .lit _ => 1
  | .nil => 1
  | .ptr d => uptoBulk d + 1
  | .slice elems spare => uptoBulkAll elems + uptoBulkAll spare + 1
  | .agg parts => uptoBulkAll parts + 1
  | .iface _ d => uptoBulk d + 1
  | .map entries => uptoBulkEntries entries + 1
  | .held _ => 1
def uptoBulkAll {H : Type} : List (DataW H) → Nat
  | [] => 0
  | d :: r => uptoBulk d + uptoBulkAll r
def uptoBulkEntries {H : Type} : List (Lit × DataW H) → Nat
  | [] => 0
  | x :: r => uptoBulkEntry x + uptoBulkEntries r
def uptoBulkEntry {H : Type} : Lit × DataW H → Nat
  | (.string bytes, d) => bytes.length + uptoBulk d + 1
  | (_, d) => uptoBulk d + 1
 end
def uptoSmall : (H : Type) → List (DataW H) → Bool := fun _ ds => decide (uptoBulkAll ds ≤ 1048576)
def OpenSpec.upto (s : _root_.Go.ChangeSpec) : _root_.Go.OpenSpec := { _root_.Go.OpenSpec.ofChange s with cond := some uptoSmall }

/-- 'batchlinelaw22.SurgeBegins', WHERE WHAT IT READS IS OF BULK AT MOST 1048576: true; the input reads as it did. -/
def surgeBeginsUptoRow : OpenClaim := { program := "ytodeekicjiengaagreatdoor", sum := "1f4bce2a095c98d8a9b59e1e42e8c2f852292db9442d6b8dfec6afb0feb98391", func := "batchline/batchlinelaw22.SurgeBegins", spec := "surgeBegins", unfollowed := true, recurses := true, named := ["batchline/product.spans"], apart := false, laid := [("batchline/product.spans", laid_batchline_product_spans)], narrowed := true }
def SurgeBeginsUptoSaid : Prop := surgeBeginsUptoRow.holds Tryz.pinned (OpenSpec.upto surgeBeginsSpec)

/-- 'batchlinelaw22.SurgeSingle', WHERE WHAT IT READS IS OF BULK AT MOST 1048576: true; the input reads as it did. -/
def surgeSingleUptoRow : OpenClaim := { program := "ytodeekicjiengaagreatdoor", sum := "1f4bce2a095c98d8a9b59e1e42e8c2f852292db9442d6b8dfec6afb0feb98391", func := "batchline/batchlinelaw22.SurgeSingle", spec := "surgeSingle", unfollowed := true, recurses := true, named := ["batchline/product.spans"], apart := false, laid := [("batchline/product.spans", laid_batchline_product_spans)], narrowed := true }
def SurgeSingleUptoSaid : Prop := surgeSingleUptoRow.holds Tryz.pinned (OpenSpec.upto surgeSingleSpec)

/-- 'batchlinelaw22.SurgeApart', WHERE WHAT IT READS IS OF BULK AT MOST 1048576: true; the input reads as it did. -/
def surgeApartUptoRow : OpenClaim := { program := "ytodeekicjiengaagreatdoor", sum := "1f4bce2a095c98d8a9b59e1e42e8c2f852292db9442d6b8dfec6afb0feb98391", func := "batchline/batchlinelaw22.SurgeApart", spec := "surgeApart", unfollowed := true, recurses := true, named := ["batchline/product.spans"], apart := false, laid := [("batchline/product.spans", laid_batchline_product_spans)], narrowed := true }
def SurgeApartUptoSaid : Prop := surgeApartUptoRow.holds Tryz.pinned (OpenSpec.upto surgeApartSpec)

end Rows
end Go.Proofs.YtodeekicjiengaaGreatDoor
