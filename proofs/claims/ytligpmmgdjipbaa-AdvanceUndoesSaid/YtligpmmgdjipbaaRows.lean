/-
  No cell of these rows narrows 'for every input' (looked for: loops, veiled, ifaces, maps, wideKeys, modest, calm, conditions, laid).
  DERIVED. THE GIVEN ROWS OF THIS SEAT. 5 by the template 'for every input the law returns true; each argument reads behind the call as it read before'; 0 by the template 'total and deterministic' (their statements: YtligpmmgdjipbaaTotals.lean).
  GIVEN WITH THE SEED: the statements are not yours to turn. If you find one false, say at which input.
  Laid BY PROGRAM, IN A SANDBOX (cutbox-rows.mjs): the forced cells as the released guide's own fill.sh prints them over the translation 0395f3923c501499… (all of the seat's roots in one cut). By AI agents, Wed Nov 11 2026. No macro, syntax, notation, axiom, sorry.
-/
import Derived.Test.YtligpmmgdjipbaaChecked
import GoSem.Claim
import GoSem.ClaimJoined
import GoSem.ClaimMapViews
import Derived.JoinedTies
import Derived.KernelRfl
namespace Go.Proofs.Ytligpmmgdjipbaa
/- THE CELL 'sum', in the pinned program and in every row, IS THE sha256 OF THE DUMP (.gsa) THAT YtligpmmgdjipbaaProg.lean LOADS. Nothing in Lean hashes anything: it is a label: what it is worth is what the hold of that sum in a sandbox is worth. -/
noncomputable def Try.pinned : Pinned := { name := "ytligpmmgdjipbaa", sum := "0395f3923c5014999811007c54e8322516ced7119ccc4f1310f3754dfda660c0", checked := Try.checked }
namespace Rows
def none {H : Type} : Left H := { results := [], args := [] }

/-- 'batchlinelaw18.AdvanceUndoes': WHATEVER THE INPUT: true; the input reads as it did. -/
def advanceUndoesSpec : ChangeSpec := { name := "advanceUndoes", fn := fun _ => fun
  | [d1, d2] => { results := [.lit (.bool true)], args := [d1, d2] }
  | _ => none }
def advanceUndoesRow : OpenClaim := { program := "ytligpmmgdjipbaa", sum := "0395f3923c5014999811007c54e8322516ced7119ccc4f1310f3754dfda660c0", func := "batchline/batchlinelaw18.AdvanceUndoes", spec := "advanceUndoes", unfollowed := true, recurses := true, apart := false }
def AdvanceUndoesSaid : Prop := advanceUndoesRow.holds Try.pinned (OpenSpec.ofChange advanceUndoesSpec)

/-- ITS FALSE NEIGHBOUR: 'it returns false'. Refute it at one input. -/
def advanceUndoesWrong : ChangeSpec := { name := "advanceUndoes", fn := fun _ => fun
  | [d1, d2] => { results := [.lit (.bool false)], args := [d1, d2] }
  | _ => none }
def AdvanceUndoesWrongFalsely : Prop := advanceUndoesRow.holds Try.pinned (OpenSpec.ofChange advanceUndoesWrong)

/-- 'batchlinelaw18.AdvanceRests': WHATEVER THE INPUT: true; the input reads as it did. -/
def advanceRestsSpec : ChangeSpec := { name := "advanceRests", fn := fun _ => fun
  | [d1, d2] => { results := [.lit (.bool true)], args := [d1, d2] }
  | _ => none }
def advanceRestsRow : OpenClaim := { program := "ytligpmmgdjipbaa", sum := "0395f3923c5014999811007c54e8322516ced7119ccc4f1310f3754dfda660c0", func := "batchline/batchlinelaw18.AdvanceRests", spec := "advanceRests", unfollowed := true, recurses := true, apart := false }
def AdvanceRestsSaid : Prop := advanceRestsRow.holds Try.pinned (OpenSpec.ofChange advanceRestsSpec)

/-- ITS FALSE NEIGHBOUR: 'it returns false'. Refute it at one input. -/
def advanceRestsWrong : ChangeSpec := { name := "advanceRests", fn := fun _ => fun
  | [d1, d2] => { results := [.lit (.bool false)], args := [d1, d2] }
  | _ => none }
def AdvanceRestsWrongFalsely : Prop := advanceRestsRow.holds Try.pinned (OpenSpec.ofChange advanceRestsWrong)

/-- 'batchlinelaw18.AdvanceKeeps': WHATEVER THE INPUT: true; the input reads as it did. -/
def advanceKeepsSpec : ChangeSpec := { name := "advanceKeeps", fn := fun _ => fun
  | [d1, d2] => { results := [.lit (.bool true)], args := [d1, d2] }
  | _ => none }
def advanceKeepsRow : OpenClaim := { program := "ytligpmmgdjipbaa", sum := "0395f3923c5014999811007c54e8322516ced7119ccc4f1310f3754dfda660c0", func := "batchline/batchlinelaw18.AdvanceKeeps", spec := "advanceKeeps", unfollowed := true, recurses := true, apart := false }
def AdvanceKeepsSaid : Prop := advanceKeepsRow.holds Try.pinned (OpenSpec.ofChange advanceKeepsSpec)

/-- ITS FALSE NEIGHBOUR: 'it returns false'. Refute it at one input. -/
def advanceKeepsWrong : ChangeSpec := { name := "advanceKeeps", fn := fun _ => fun
  | [d1, d2] => { results := [.lit (.bool false)], args := [d1, d2] }
  | _ => none }
def AdvanceKeepsWrongFalsely : Prop := advanceKeepsRow.holds Try.pinned (OpenSpec.ofChange advanceKeepsWrong)

/-- 'batchlinelaw18.AdvanceSteps': WHATEVER THE INPUT: true; the input reads as it did. -/
def advanceStepsSpec : ChangeSpec := { name := "advanceSteps", fn := fun _ => fun
  | [d1, d2] => { results := [.lit (.bool true)], args := [d1, d2] }
  | _ => none }
def advanceStepsRow : OpenClaim := { program := "ytligpmmgdjipbaa", sum := "0395f3923c5014999811007c54e8322516ced7119ccc4f1310f3754dfda660c0", func := "batchline/batchlinelaw18.AdvanceSteps", spec := "advanceSteps", unfollowed := true, recurses := true, apart := false }
def AdvanceStepsSaid : Prop := advanceStepsRow.holds Try.pinned (OpenSpec.ofChange advanceStepsSpec)

/-- ITS FALSE NEIGHBOUR: 'it returns false'. Refute it at one input. -/
def advanceStepsWrong : ChangeSpec := { name := "advanceSteps", fn := fun _ => fun
  | [d1, d2] => { results := [.lit (.bool false)], args := [d1, d2] }
  | _ => none }
def AdvanceStepsWrongFalsely : Prop := advanceStepsRow.holds Try.pinned (OpenSpec.ofChange advanceStepsWrong)

/-- 'batchlinelaw18.AdvanceArrives': WHATEVER THE INPUT: true; the input reads as it did. -/
def advanceArrivesSpec : ChangeSpec := { name := "advanceArrives", fn := fun _ => fun
  | [d] => { results := [.lit (.bool true)], args := [d] }
  | _ => none }
def advanceArrivesRow : OpenClaim := { program := "ytligpmmgdjipbaa", sum := "0395f3923c5014999811007c54e8322516ced7119ccc4f1310f3754dfda660c0", func := "batchline/batchlinelaw18.AdvanceArrives", spec := "advanceArrives", unfollowed := true, recurses := true, apart := false }
def AdvanceArrivesSaid : Prop := advanceArrivesRow.holds Try.pinned (OpenSpec.ofChange advanceArrivesSpec)

/-- ITS FALSE NEIGHBOUR: 'it returns false'. Refute it at one input. -/
def advanceArrivesWrong : ChangeSpec := { name := "advanceArrives", fn := fun _ => fun
  | [d] => { results := [.lit (.bool false)], args := [d] }
  | _ => none }
def AdvanceArrivesWrongFalsely : Prop := advanceArrivesRow.holds Try.pinned (OpenSpec.ofChange advanceArrivesWrong)

/- THE SECOND FORM. 'bulk': how many values and letters a reading holds, each counted each time it is reached (what is shared counts as often as it is met; a slice's spare places count too). A statement '..UptoSaid' is the law's where the arguments, and the package variables that the reading takes, are together of bulk at most 1048576: NARROWER than '..Said'. Prove '..Said' where nothing that the law and all that it calls make is longer than what came in: it says more and counts as full. Else prove '..UptoSaid'. A law counts once. -/
mutual
def uptoBulk {H : Type} : DataW H → Nat
  | .lit (.string bytes) => bytes.length + 1
  | .lit _ => 1
  | .nil => 1
  | .ptr d => uptoBulk d + 1
  | .slice elems spare => uptoBulkAll elems + uptoBulkAll spare + 1
  | .agg parts => uptoBulkAll parts + 1
  | .iface _ d => uptoBulk d + 1
  | .map entries => uptoBulkEntries entries + 1
  | .held _ => 1
def uptoBulkAll {H : Type} : List (DataW H) → Nat
  | [] => 0
  | d :: r => uptoBulk d + uptoBulkAll r
def uptoBulkEntries {H : Type} : List (Lit × DataW H) → Nat
  | [] => 0
  | x :: r => uptoBulkEntry x + uptoBulkEntries r
def uptoBulkEntry {H : Type} : Lit × DataW H → Nat
  | (.string bytes, d) => bytes.length + uptoBulk d + 1
  | (_, d) => uptoBulk d + 1
 end
def uptoSmall : (H : Type) → List (DataW H) → Bool := fun _ ds => decide (uptoBulkAll ds ≤ 1048576)
def OpenSpec.upto (s : _root_.Go.ChangeSpec) : _root_.Go.OpenSpec := { _root_.Go.OpenSpec.ofChange s with cond := some uptoSmall }

/-- 'batchlinelaw18.AdvanceUndoes', WHERE WHAT IT READS IS OF BULK AT MOST 1048576: true; the input reads as it did. -/
def advanceUndoesUptoRow : OpenClaim := { program := "ytligpmmgdjipbaa", sum := "0395f3923c5014999811007c54e8322516ced7119ccc4f1310f3754dfda660c0", func := "batchline/batchlinelaw18.AdvanceUndoes", spec := "advanceUndoes", unfollowed := true, recurses := true, apart := false, narrowed := true }
def AdvanceUndoesUptoSaid : Prop := advanceUndoesUptoRow.holds Try.pinned (OpenSpec.upto advanceUndoesSpec)

/-- 'batchlinelaw18.AdvanceRests', WHERE WHAT IT READS IS OF BULK AT MOST 1048576: true; the input reads as it did. -/
def advanceRestsUptoRow : OpenClaim := { program := "ytligpmmgdjipbaa", sum := "0395f3923c5014999811007c54e8322516ced7119ccc4f1310f3754dfda660c0", func := "batchline/batchlinelaw18.AdvanceRests", spec := "advanceRests", unfollowed := true, recurses := true, apart := false, narrowed := true }
def AdvanceRestsUptoSaid : Prop := advanceRestsUptoRow.holds Try.pinned (OpenSpec.upto advanceRestsSpec)

/-- 'batchlinelaw18.AdvanceKeeps', WHERE WHAT IT READS IS OF BULK AT MOST 1048576: true; the input reads as it did. -/
def advanceKeepsUptoRow : OpenClaim := { program := "ytligpmmgdjipbaa", sum := "0395f3923c5014999811007c54e8322516ced7119ccc4f1310f3754dfda660c0", func := "batchline/batchlinelaw18.AdvanceKeeps", spec := "advanceKeeps", unfollowed := true, recurses := true, apart := false, narrowed := true }
def AdvanceKeepsUptoSaid : Prop := advanceKeepsUptoRow.holds Try.pinned (OpenSpec.upto advanceKeepsSpec)

/-- 'batchlinelaw18.AdvanceSteps', WHERE WHAT IT READS IS OF BULK AT MOST 1048576: true; the input reads as it did. -/
def advanceStepsUptoRow : OpenClaim := { program := "ytligpmmgdjipbaa", sum := "0395f3923c5014999811007c54e8322516ced7119ccc4f1310f3754dfda660c0", func := "batchline/batchlinelaw18.AdvanceSteps", spec := "advanceSteps", unfollowed := true, recurses := true, apart := false, narrowed := true }
def AdvanceStepsUptoSaid : Prop := advanceStepsUptoRow.holds Try.pinned (OpenSpec.upto advanceStepsSpec)

/-- 'batchlinelaw18.AdvanceArrives', WHERE WHAT IT READS IS OF BULK AT MOST 1048576: true; the input reads as it did. -/
def advanceArrivesUptoRow : OpenClaim := { program := "ytligpmmgdjipbaa", sum := "0395f3923c5014999811007c54e8322516ced7119ccc4f1310f3754dfda660c0", func := "batchline/batchlinelaw18.AdvanceArrives", spec := "advanceArrives", unfollowed := true, recurses := true, apart := false, narrowed := true }
def AdvanceArrivesUptoSaid : Prop := advanceArrivesUptoRow.holds Try.pinned (OpenSpec.upto advanceArrivesSpec)

end Rows
end Go.Proofs.Ytligpmmgdjipbaa
