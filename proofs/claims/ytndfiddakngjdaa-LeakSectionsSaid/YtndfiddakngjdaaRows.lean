/-
  No cell of these rows narrows 'for every input' (looked for: loops, veiled, ifaces, maps, wideKeys, modest, calm, conditions, laid).
  DERIVED. THE GIVEN ROWS OF THIS SEAT. 10 by the template 'for every input the law returns true; each argument reads behind the call as it read before'; 0 by the template 'total and deterministic' (their statements: YtndfiddakngjdaaTotals.lean).
  GIVEN WITH THE SEED: the statements are not yours to turn. If you find one false, say at which input.
  Laid BY PROGRAM, IN A SANDBOX (cutbox-rows.mjs): the forced cells as the released guide's own fill.sh prints them over the translation c675fe5d7e67c6d7… (all of the seat's roots in one cut). By AI agents, Wed Nov 11 2026. No macro, syntax, notation, axiom, sorry.
-/
import Derived.Test.YtndfiddakngjdaaChecked
import GoSem.Claim
import GoSem.ClaimJoined
import GoSem.ClaimMapViews
import Derived.JoinedTies
import Derived.KernelRfl
namespace Go.Proofs.Ytndfiddakngjdaa
/- THE CELL 'sum', in the pinned program and in every row, IS THE sha256 OF THE DUMP (.gsa) THAT YtndfiddakngjdaaProg.lean LOADS. Nothing in Lean hashes anything: it is a label: what it is worth is what the hold of that sum in a sandbox is worth. -/
noncomputable def Try.pinned : Pinned := { name := "ytndfiddakngjdaa", sum := "c675fe5d7e67c6d7626241b44444d456768be451cf7ab2f15caf7a2ea275ca33", checked := Try.checked }
namespace Rows
def none {H : Type} : Left H := { results := [], args := [] }

/-- 'batchlinelaw22.SurgeGroups': WHATEVER THE INPUT: true; the input reads as it did. -/
def surgeGroupsSpec : ChangeSpec := { name := "surgeGroups", fn := fun _ => fun
  | [d] => { results := [.lit (.bool true)], args := [d] }
  | _ => none }
def surgeGroupsRow : OpenClaim := { program := "ytndfiddakngjdaa", sum := "c675fe5d7e67c6d7626241b44444d456768be451cf7ab2f15caf7a2ea275ca33", func := "batchline/batchlinelaw22.SurgeGroups", spec := "surgeGroups", unfollowed := true, recurses := true, apart := false }
def SurgeGroupsSaid : Prop := surgeGroupsRow.holds Try.pinned (OpenSpec.ofChange surgeGroupsSpec)

/-- ITS FALSE NEIGHBOUR: 'it returns false'. Refute it at one input. -/
def surgeGroupsWrong : ChangeSpec := { name := "surgeGroups", fn := fun _ => fun
  | [d] => { results := [.lit (.bool false)], args := [d] }
  | _ => none }
def SurgeGroupsWrongFalsely : Prop := surgeGroupsRow.holds Try.pinned (OpenSpec.ofChange surgeGroupsWrong)

/-- 'batchlinelaw22.SurgeTurns': WHATEVER THE INPUT: true; the input reads as it did. -/
def surgeTurnsSpec : ChangeSpec := { name := "surgeTurns", fn := fun _ => fun
  | [d] => { results := [.lit (.bool true)], args := [d] }
  | _ => none }
def surgeTurnsRow : OpenClaim := { program := "ytndfiddakngjdaa", sum := "c675fe5d7e67c6d7626241b44444d456768be451cf7ab2f15caf7a2ea275ca33", func := "batchline/batchlinelaw22.SurgeTurns", spec := "surgeTurns", unfollowed := true, recurses := true, apart := false }
def SurgeTurnsSaid : Prop := surgeTurnsRow.holds Try.pinned (OpenSpec.ofChange surgeTurnsSpec)

/-- ITS FALSE NEIGHBOUR: 'it returns false'. Refute it at one input. -/
def surgeTurnsWrong : ChangeSpec := { name := "surgeTurns", fn := fun _ => fun
  | [d] => { results := [.lit (.bool false)], args := [d] }
  | _ => none }
def SurgeTurnsWrongFalsely : Prop := surgeTurnsRow.holds Try.pinned (OpenSpec.ofChange surgeTurnsWrong)

/-- 'batchlinelaw22.SurgeThird': WHATEVER THE INPUT: true; the input reads as it did. -/
def surgeThirdSpec : ChangeSpec := { name := "surgeThird", fn := fun _ => fun
  | [d] => { results := [.lit (.bool true)], args := [d] }
  | _ => none }
def surgeThirdRow : OpenClaim := { program := "ytndfiddakngjdaa", sum := "c675fe5d7e67c6d7626241b44444d456768be451cf7ab2f15caf7a2ea275ca33", func := "batchline/batchlinelaw22.SurgeThird", spec := "surgeThird", unfollowed := true, recurses := true, apart := false }
def SurgeThirdSaid : Prop := surgeThirdRow.holds Try.pinned (OpenSpec.ofChange surgeThirdSpec)

/-- ITS FALSE NEIGHBOUR: 'it returns false'. Refute it at one input. -/
def surgeThirdWrong : ChangeSpec := { name := "surgeThird", fn := fun _ => fun
  | [d] => { results := [.lit (.bool false)], args := [d] }
  | _ => none }
def SurgeThirdWrongFalsely : Prop := surgeThirdRow.holds Try.pinned (OpenSpec.ofChange surgeThirdWrong)

/-- 'batchlinelaw25.PathsOver': WHATEVER THE INPUT: true; the input reads as it did. -/
def pathsOverSpec : ChangeSpec := { name := "pathsOver", fn := fun _ => fun
  | [d1, d2] => { results := [.lit (.bool true)], args := [d1, d2] }
  | _ => none }
def pathsOverRow : OpenClaim := { program := "ytndfiddakngjdaa", sum := "c675fe5d7e67c6d7626241b44444d456768be451cf7ab2f15caf7a2ea275ca33", func := "batchline/batchlinelaw25.PathsOver", spec := "pathsOver", unfollowed := true, recurses := true, apart := false }
def PathsOverSaid : Prop := pathsOverRow.holds Try.pinned (OpenSpec.ofChange pathsOverSpec)

/-- ITS FALSE NEIGHBOUR: 'it returns false'. Refute it at one input. -/
def pathsOverWrong : ChangeSpec := { name := "pathsOver", fn := fun _ => fun
  | [d1, d2] => { results := [.lit (.bool false)], args := [d1, d2] }
  | _ => none }
def PathsOverWrongFalsely : Prop := pathsOverRow.holds Try.pinned (OpenSpec.ofChange pathsOverWrong)

/-- 'batchlinelaw35.LeakSections': WHATEVER THE INPUT: true; the input reads as it did. -/
def leakSectionsSpec : ChangeSpec := { name := "leakSections", fn := fun _ => fun
  | [d] => { results := [.lit (.bool true)], args := [d] }
  | _ => none }
def leakSectionsRow : OpenClaim := { program := "ytndfiddakngjdaa", sum := "c675fe5d7e67c6d7626241b44444d456768be451cf7ab2f15caf7a2ea275ca33", func := "batchline/batchlinelaw35.LeakSections", spec := "leakSections", unfollowed := true, recurses := true, apart := false }
def LeakSectionsSaid : Prop := leakSectionsRow.holds Try.pinned (OpenSpec.ofChange leakSectionsSpec)

/-- ITS FALSE NEIGHBOUR: 'it returns false'. Refute it at one input. -/
def leakSectionsWrong : ChangeSpec := { name := "leakSections", fn := fun _ => fun
  | [d] => { results := [.lit (.bool false)], args := [d] }
  | _ => none }
def LeakSectionsWrongFalsely : Prop := leakSectionsRow.holds Try.pinned (OpenSpec.ofChange leakSectionsWrong)

/-- 'batchlinelaw25.PathsAdded': WHATEVER THE INPUT: true; the input reads as it did. -/
def pathsAddedSpec : ChangeSpec := { name := "pathsAdded", fn := fun _ => fun
  | [d] => { results := [.lit (.bool true)], args := [d] }
  | _ => none }
def pathsAddedRow : OpenClaim := { program := "ytndfiddakngjdaa", sum := "c675fe5d7e67c6d7626241b44444d456768be451cf7ab2f15caf7a2ea275ca33", func := "batchline/batchlinelaw25.PathsAdded", spec := "pathsAdded", unfollowed := true, recurses := true, apart := false }
def PathsAddedSaid : Prop := pathsAddedRow.holds Try.pinned (OpenSpec.ofChange pathsAddedSpec)

/-- ITS FALSE NEIGHBOUR: 'it returns false'. Refute it at one input. -/
def pathsAddedWrong : ChangeSpec := { name := "pathsAdded", fn := fun _ => fun
  | [d] => { results := [.lit (.bool false)], args := [d] }
  | _ => none }
def PathsAddedWrongFalsely : Prop := pathsAddedRow.holds Try.pinned (OpenSpec.ofChange pathsAddedWrong)

/-- 'batchlinelaw25.PathsSum': WHATEVER THE INPUT: true; the input reads as it did. -/
def pathsSumSpec : ChangeSpec := { name := "pathsSum", fn := fun _ => fun
  | [d] => { results := [.lit (.bool true)], args := [d] }
  | _ => none }
def pathsSumRow : OpenClaim := { program := "ytndfiddakngjdaa", sum := "c675fe5d7e67c6d7626241b44444d456768be451cf7ab2f15caf7a2ea275ca33", func := "batchline/batchlinelaw25.PathsSum", spec := "pathsSum", unfollowed := true, recurses := true, apart := false }
def PathsSumSaid : Prop := pathsSumRow.holds Try.pinned (OpenSpec.ofChange pathsSumSpec)

/-- ITS FALSE NEIGHBOUR: 'it returns false'. Refute it at one input. -/
def pathsSumWrong : ChangeSpec := { name := "pathsSum", fn := fun _ => fun
  | [d] => { results := [.lit (.bool false)], args := [d] }
  | _ => none }
def PathsSumWrongFalsely : Prop := pathsSumRow.holds Try.pinned (OpenSpec.ofChange pathsSumWrong)

/-- 'batchlinelaw25.PathsParts': WHATEVER THE INPUT: true; the input reads as it did. -/
def pathsPartsSpec : ChangeSpec := { name := "pathsParts", fn := fun _ => fun
  | [d] => { results := [.lit (.bool true)], args := [d] }
  | _ => none }
def pathsPartsRow : OpenClaim := { program := "ytndfiddakngjdaa", sum := "c675fe5d7e67c6d7626241b44444d456768be451cf7ab2f15caf7a2ea275ca33", func := "batchline/batchlinelaw25.PathsParts", spec := "pathsParts", unfollowed := true, recurses := true, apart := false }
def PathsPartsSaid : Prop := pathsPartsRow.holds Try.pinned (OpenSpec.ofChange pathsPartsSpec)

/-- ITS FALSE NEIGHBOUR: 'it returns false'. Refute it at one input. -/
def pathsPartsWrong : ChangeSpec := { name := "pathsParts", fn := fun _ => fun
  | [d] => { results := [.lit (.bool false)], args := [d] }
  | _ => none }
def PathsPartsWrongFalsely : Prop := pathsPartsRow.holds Try.pinned (OpenSpec.ofChange pathsPartsWrong)

/-- 'batchlinelaw18.AdvanceUndoes': WHATEVER THE INPUT: true; the input reads as it did. -/
def advanceUndoesSpec : ChangeSpec := { name := "advanceUndoes", fn := fun _ => fun
  | [d1, d2] => { results := [.lit (.bool true)], args := [d1, d2] }
  | _ => none }
def advanceUndoesRow : OpenClaim := { program := "ytndfiddakngjdaa", sum := "c675fe5d7e67c6d7626241b44444d456768be451cf7ab2f15caf7a2ea275ca33", func := "batchline/batchlinelaw18.AdvanceUndoes", spec := "advanceUndoes", unfollowed := true, recurses := true, apart := false }
def AdvanceUndoesSaid : Prop := advanceUndoesRow.holds Try.pinned (OpenSpec.ofChange advanceUndoesSpec)

/-- ITS FALSE NEIGHBOUR: 'it returns false'. Refute it at one input. -/
def advanceUndoesWrong : ChangeSpec := { name := "advanceUndoes", fn := fun _ => fun
  | [d1, d2] => { results := [.lit (.bool false)], args := [d1, d2] }
  | _ => none }
def AdvanceUndoesWrongFalsely : Prop := advanceUndoesRow.holds Try.pinned (OpenSpec.ofChange advanceUndoesWrong)

/-- 'batchlinelaw18.AdvanceRests': WHATEVER THE INPUT: true; the input reads as it did. -/
def advanceRestsSpec : ChangeSpec := { name := "advanceRests", fn := fun _ => fun
  | [d1, d2] => { results := [.lit (.bool true)], args := [d1, d2] }
  | _ => none }
def advanceRestsRow : OpenClaim := { program := "ytndfiddakngjdaa", sum := "c675fe5d7e67c6d7626241b44444d456768be451cf7ab2f15caf7a2ea275ca33", func := "batchline/batchlinelaw18.AdvanceRests", spec := "advanceRests", unfollowed := true, recurses := true, apart := false }
def AdvanceRestsSaid : Prop := advanceRestsRow.holds Try.pinned (OpenSpec.ofChange advanceRestsSpec)

/-- ITS FALSE NEIGHBOUR: 'it returns false'. Refute it at one input. -/
def advanceRestsWrong : ChangeSpec := { name := "advanceRests", fn := fun _ => fun
  | [d1, d2] => { results := [.lit (.bool false)], args := [d1, d2] }
  | _ => none }
def AdvanceRestsWrongFalsely : Prop := advanceRestsRow.holds Try.pinned (OpenSpec.ofChange advanceRestsWrong)

/- THE SECOND FORM. 'bulk': how many values and letters a reading holds, each counted each time it is reached (what is shared counts as often as it is met; a slice's spare places count too). A statement '..UptoSaid' is the law's where the arguments, and the package variables that the reading takes, are together of bulk at most 1048576: NARROWER than '..Said'. Prove '..Said' where nothing that the law and all that it calls make is longer than what came in: it says more and counts as full. Else prove '..UptoSaid'. A law counts once. -/
mutual
def uptoBulk {H : Type} : DataW H → Nat
  | .lit (.string bytes) => bytes.length + 1
  | .lit _ => 1
  | .nil => 1
  | .ptr d => uptoBulk d + 1
  | .slice elems spare => uptoBulkAll elems + uptoBulkAll spare + 1
  | .agg parts => uptoBulkAll parts + 1
  | .iface _ d => uptoBulk d + 1
  | .map entries => uptoBulkEntries entries + 1
  | .held _ => 1
def uptoBulkAll {H : Type} : List (DataW H) → Nat
  | [] => 0
  | d :: r => uptoBulk d + uptoBulkAll r
def uptoBulkEntries {H : Type} : List (Lit × DataW H) → Nat
  | [] => 0
  | x :: r => uptoBulkEntry x + uptoBulkEntries r
def uptoBulkEntry {H : Type} : Lit × DataW H → Nat
  | (.string bytes, d) => bytes.length + uptoBulk d + 1
  | (_, d) => uptoBulk d + 1
 end
def uptoSmall : (H : Type) → List (DataW H) → Bool := fun _ ds => decide (uptoBulkAll ds ≤ 1048576)
def OpenSpec.upto (s : _root_.Go.ChangeSpec) : _root_.Go.OpenSpec := { _root_.Go.OpenSpec.ofChange s with cond := some uptoSmall }

/-- 'batchlinelaw22.SurgeGroups', WHERE WHAT IT READS IS OF BULK AT MOST 1048576: true; the input reads as it did. -/
def surgeGroupsUptoRow : OpenClaim := { program := "ytndfiddakngjdaa", sum := "c675fe5d7e67c6d7626241b44444d456768be451cf7ab2f15caf7a2ea275ca33", func := "batchline/batchlinelaw22.SurgeGroups", spec := "surgeGroups", unfollowed := true, recurses := true, apart := false, narrowed := true }
def SurgeGroupsUptoSaid : Prop := surgeGroupsUptoRow.holds Try.pinned (OpenSpec.upto surgeGroupsSpec)

/-- 'batchlinelaw22.SurgeTurns', WHERE WHAT IT READS IS OF BULK AT MOST 1048576: true; the input reads as it did. -/
def surgeTurnsUptoRow : OpenClaim := { program := "ytndfiddakngjdaa", sum := "c675fe5d7e67c6d7626241b44444d456768be451cf7ab2f15caf7a2ea275ca33", func := "batchline/batchlinelaw22.SurgeTurns", spec := "surgeTurns", unfollowed := true, recurses := true, apart := false, narrowed := true }
def SurgeTurnsUptoSaid : Prop := surgeTurnsUptoRow.holds Try.pinned (OpenSpec.upto surgeTurnsSpec)

/-- 'batchlinelaw22.SurgeThird', WHERE WHAT IT READS IS OF BULK AT MOST 1048576: true; the input reads as it did. -/
def surgeThirdUptoRow : OpenClaim := { program := "ytndfiddakngjdaa", sum := "c675fe5d7e67c6d7626241b44444d456768be451cf7ab2f15caf7a2ea275ca33", func := "batchline/batchlinelaw22.SurgeThird", spec := "surgeThird", unfollowed := true, recurses := true, apart := false, narrowed := true }
def SurgeThirdUptoSaid : Prop := surgeThirdUptoRow.holds Try.pinned (OpenSpec.upto surgeThirdSpec)

/-- 'batchlinelaw25.PathsOver', WHERE WHAT IT READS IS OF BULK AT MOST 1048576: true; the input reads as it did. -/
def pathsOverUptoRow : OpenClaim := { program := "ytndfiddakngjdaa", sum := "c675fe5d7e67c6d7626241b44444d456768be451cf7ab2f15caf7a2ea275ca33", func := "batchline/batchlinelaw25.PathsOver", spec := "pathsOver", unfollowed := true, recurses := true, apart := false, narrowed := true }
def PathsOverUptoSaid : Prop := pathsOverUptoRow.holds Try.pinned (OpenSpec.upto pathsOverSpec)

/-- 'batchlinelaw35.LeakSections', WHERE WHAT IT READS IS OF BULK AT MOST 1048576: true; the input reads as it did. -/
def leakSectionsUptoRow : OpenClaim := { program := "ytndfiddakngjdaa", sum := "c675fe5d7e67c6d7626241b44444d456768be451cf7ab2f15caf7a2ea275ca33", func := "batchline/batchlinelaw35.LeakSections", spec := "leakSections", unfollowed := true, recurses := true, apart := false, narrowed := true }
def LeakSectionsUptoSaid : Prop := leakSectionsUptoRow.holds Try.pinned (OpenSpec.upto leakSectionsSpec)

/-- 'batchlinelaw25.PathsAdded', WHERE WHAT IT READS IS OF BULK AT MOST 1048576: true; the input reads as it did. -/
def pathsAddedUptoRow : OpenClaim := { program := "ytndfiddakngjdaa", sum := "c675fe5d7e67c6d7626241b44444d456768be451cf7ab2f15caf7a2ea275ca33", func := "batchline/batchlinelaw25.PathsAdded", spec := "pathsAdded", unfollowed := true, recurses := true, apart := false, narrowed := true }
def PathsAddedUptoSaid : Prop := pathsAddedUptoRow.holds Try.pinned (OpenSpec.upto pathsAddedSpec)

/-- 'batchlinelaw25.PathsSum', WHERE WHAT IT READS IS OF BULK AT MOST 1048576: true; the input reads as it did. -/
def pathsSumUptoRow : OpenClaim := { program := "ytndfiddakngjdaa", sum := "c675fe5d7e67c6d7626241b44444d456768be451cf7ab2f15caf7a2ea275ca33", func := "batchline/batchlinelaw25.PathsSum", spec := "pathsSum", unfollowed := true, recurses := true, apart := false, narrowed := true }
def PathsSumUptoSaid : Prop := pathsSumUptoRow.holds Try.pinned (OpenSpec.upto pathsSumSpec)

/-- 'batchlinelaw25.PathsParts', WHERE WHAT IT READS IS OF BULK AT MOST 1048576: true; the input reads as it did. -/
def pathsPartsUptoRow : OpenClaim := { program := "ytndfiddakngjdaa", sum := "c675fe5d7e67c6d7626241b44444d456768be451cf7ab2f15caf7a2ea275ca33", func := "batchline/batchlinelaw25.PathsParts", spec := "pathsParts", unfollowed := true, recurses := true, apart := false, narrowed := true }
def PathsPartsUptoSaid : Prop := pathsPartsUptoRow.holds Try.pinned (OpenSpec.upto pathsPartsSpec)

/-- 'batchlinelaw18.AdvanceUndoes', WHERE WHAT IT READS IS OF BULK AT MOST 1048576: true; the input reads as it did. -/
def advanceUndoesUptoRow : OpenClaim := { program := "ytndfiddakngjdaa", sum := "c675fe5d7e67c6d7626241b44444d456768be451cf7ab2f15caf7a2ea275ca33", func := "batchline/batchlinelaw18.AdvanceUndoes", spec := "advanceUndoes", unfollowed := true, recurses := true, apart := false, narrowed := true }
def AdvanceUndoesUptoSaid : Prop := advanceUndoesUptoRow.holds Try.pinned (OpenSpec.upto advanceUndoesSpec)

/-- 'batchlinelaw18.AdvanceRests', WHERE WHAT IT READS IS OF BULK AT MOST 1048576: true; the input reads as it did. -/
def advanceRestsUptoRow : OpenClaim := { program := "ytndfiddakngjdaa", sum := "c675fe5d7e67c6d7626241b44444d456768be451cf7ab2f15caf7a2ea275ca33", func := "batchline/batchlinelaw18.AdvanceRests", spec := "advanceRests", unfollowed := true, recurses := true, apart := false, narrowed := true }
def AdvanceRestsUptoSaid : Prop := advanceRestsUptoRow.holds Try.pinned (OpenSpec.upto advanceRestsSpec)

end Rows
end Go.Proofs.Ytndfiddakngjdaa
