/-
  No cell of these rows narrows 'for every input' (looked for: loops, veiled, ifaces, maps, wideKeys, modest, calm, conditions, laid).
  DERIVED. THE GIVEN ROWS OF THIS SEAT. 3 by the template 'for every input the law returns true; each argument reads behind the call as it read before'; 0 by the template 'total and deterministic' (their statements: YtnmiidccebhiaaaTotals.lean).
  GIVEN WITH THE SEED: the statements are not yours to turn. If you find one false, say at which input.
  Laid BY PROGRAM, IN A SANDBOX (cutbox-rows.mjs): the forced cells as the released guide's own fill.sh prints them over the translation ac19c313f6c81d3b… (all of the seat's roots in one cut). By AI agents, Wed Nov 11 2026. No macro, syntax, notation, axiom, sorry.
-/
import Derived.Test.YtnmiidccebhiaaaChecked
import GoSem.Claim
import GoSem.ClaimJoined
import GoSem.ClaimMapViews
import Derived.JoinedTies
import Derived.KernelRfl
namespace Go.Proofs.Ytnmiidccebhiaaa
/- THE CELL 'sum', in the pinned program and in every row, IS THE sha256 OF THE DUMP (.gsa) THAT YtnmiidccebhiaaaProg.lean LOADS. Nothing in Lean hashes anything: it is a label: what it is worth is what the hold of that sum in a sandbox is worth. -/
noncomputable def Try.pinned : Pinned := { name := "ytnmiidccebhiaaa", sum := "ac19c313f6c81d3b9cbfc8396be86eba682c55d10bbdc2f7cde7997378233a34", checked := Try.checked }
namespace Rows
def none {H : Type} : Left H := { results := [], args := [] }

/-- 'batchlinelaw35.LeakFound': WHATEVER THE INPUT: true; the input reads as it did. -/
def leakFoundSpec : ChangeSpec := { name := "leakFound", fn := fun _ => fun
  | [d1, d2, d3, d4, d5, d6] => { results := [.lit (.bool true)], args := [d1, d2, d3, d4, d5, d6] }
  | _ => none }
def leakFoundRow : OpenClaim := { program := "ytnmiidccebhiaaa", sum := "ac19c313f6c81d3b9cbfc8396be86eba682c55d10bbdc2f7cde7997378233a34", func := "batchline/batchlinelaw35.LeakFound", spec := "leakFound", unfollowed := true, recurses := true, apart := false }
def LeakFoundSaid : Prop := leakFoundRow.holds Try.pinned (OpenSpec.ofChange leakFoundSpec)

/-- ITS FALSE NEIGHBOUR: 'it returns false'. Refute it at one input. -/
def leakFoundWrong : ChangeSpec := { name := "leakFound", fn := fun _ => fun
  | [d1, d2, d3, d4, d5, d6] => { results := [.lit (.bool false)], args := [d1, d2, d3, d4, d5, d6] }
  | _ => none }
def LeakFoundWrongFalsely : Prop := leakFoundRow.holds Try.pinned (OpenSpec.ofChange leakFoundWrong)

/-- 'batchlinelaw35.LeakThresholds': WHATEVER THE INPUT: true; the input reads as it did. -/
def leakThresholdsSpec : ChangeSpec := { name := "leakThresholds", fn := fun _ => fun
  | [d1, d2, d3, d4] => { results := [.lit (.bool true)], args := [d1, d2, d3, d4] }
  | _ => none }
def leakThresholdsRow : OpenClaim := { program := "ytnmiidccebhiaaa", sum := "ac19c313f6c81d3b9cbfc8396be86eba682c55d10bbdc2f7cde7997378233a34", func := "batchline/batchlinelaw35.LeakThresholds", spec := "leakThresholds", unfollowed := true, recurses := true, apart := false }
def LeakThresholdsSaid : Prop := leakThresholdsRow.holds Try.pinned (OpenSpec.ofChange leakThresholdsSpec)

/-- ITS FALSE NEIGHBOUR: 'it returns false'. Refute it at one input. -/
def leakThresholdsWrong : ChangeSpec := { name := "leakThresholds", fn := fun _ => fun
  | [d1, d2, d3, d4] => { results := [.lit (.bool false)], args := [d1, d2, d3, d4] }
  | _ => none }
def LeakThresholdsWrongFalsely : Prop := leakThresholdsRow.holds Try.pinned (OpenSpec.ofChange leakThresholdsWrong)

/-- 'batchlinelaw35.LeakSections': WHATEVER THE INPUT: true; the input reads as it did. -/
def leakSectionsSpec : ChangeSpec := { name := "leakSections", fn := fun _ => fun
  | [d] => { results := [.lit (.bool true)], args := [d] }
  | _ => none }
def leakSectionsRow : OpenClaim := { program := "ytnmiidccebhiaaa", sum := "ac19c313f6c81d3b9cbfc8396be86eba682c55d10bbdc2f7cde7997378233a34", func := "batchline/batchlinelaw35.LeakSections", spec := "leakSections", unfollowed := true, recurses := true, apart := false }
def LeakSectionsSaid : Prop := leakSectionsRow.holds Try.pinned (OpenSpec.ofChange leakSectionsSpec)

/-- ITS FALSE NEIGHBOUR: 'it returns false'. Refute it at one input. -/
def leakSectionsWrong : ChangeSpec := { name := "leakSections", fn := fun _ => fun
  | [d] => { results := [.lit (.bool false)], args := [d] }
  | _ => none }
def LeakSectionsWrongFalsely : Prop := leakSectionsRow.holds Try.pinned (OpenSpec.ofChange leakSectionsWrong)

/- THE SECOND FORM. 'bulk': how many values and letters a reading holds, each counted each time it is reached (what is shared counts as often as it is met; a slice's spare places count too). A statement '..UptoSaid' is the law's where the arguments, and the package variables that the reading takes, are together of bulk at most 1048576: NARROWER than '..Said'. Prove '..Said' where nothing that the law and all that it calls make is longer than what came in: it says more and counts as full. Else prove '..UptoSaid'. A law counts once. -/
mutual
def uptoBulk {H : Type} : DataW H → Nat
  | .lit (.string bytes) => bytes.length + 1
  | .lit _ => 1
  | .nil => 1
  | .ptr d => uptoBulk d + 1
  | .slice elems spare => uptoBulkAll elems + uptoBulkAll spare + 1
  | .agg parts => uptoBulkAll parts + 1
  | .iface _ d => uptoBulk d + 1
  | .map entries => uptoBulkEntries entries + 1
  | .held _ => 1
def uptoBulkAll {H : Type} : List (DataW H) → Nat
  | [] => 0
  | d :: r => uptoBulk d + uptoBulkAll r
def uptoBulkEntries {H : Type} : List (Lit × DataW H) → Nat
  | [] => 0
  | x :: r => uptoBulkEntry x + uptoBulkEntries r
def uptoBulkEntry {H : Type} : Lit × DataW H → Nat
  | (.string bytes, d) => bytes.length + uptoBulk d + 1
  | (_, d) => uptoBulk d + 1
 end
def uptoSmall : (H : Type) → List (DataW H) → Bool := fun _ ds => decide (uptoBulkAll ds ≤ 1048576)
def OpenSpec.upto (s : _root_.Go.ChangeSpec) : _root_.Go.OpenSpec := { _root_.Go.OpenSpec.ofChange s with cond := some uptoSmall }

/-- 'batchlinelaw35.LeakFound', WHERE WHAT IT READS IS OF BULK AT MOST 1048576: true; the input reads as it did. -/
def leakFoundUptoRow : OpenClaim := { program := "ytnmiidccebhiaaa", sum := "ac19c313f6c81d3b9cbfc8396be86eba682c55d10bbdc2f7cde7997378233a34", func := "batchline/batchlinelaw35.LeakFound", spec := "leakFound", unfollowed := true, recurses := true, apart := false, narrowed := true }
def LeakFoundUptoSaid : Prop := leakFoundUptoRow.holds Try.pinned (OpenSpec.upto leakFoundSpec)

/-- 'batchlinelaw35.LeakThresholds', WHERE WHAT IT READS IS OF BULK AT MOST 1048576: true; the input reads as it did. -/
def leakThresholdsUptoRow : OpenClaim := { program := "ytnmiidccebhiaaa", sum := "ac19c313f6c81d3b9cbfc8396be86eba682c55d10bbdc2f7cde7997378233a34", func := "batchline/batchlinelaw35.LeakThresholds", spec := "leakThresholds", unfollowed := true, recurses := true, apart := false, narrowed := true }
def LeakThresholdsUptoSaid : Prop := leakThresholdsUptoRow.holds Try.pinned (OpenSpec.upto leakThresholdsSpec)

/-- 'batchlinelaw35.LeakSections', WHERE WHAT IT READS IS OF BULK AT MOST 1048576: true; the input reads as it did. -/
def leakSectionsUptoRow : OpenClaim := { program := "ytnmiidccebhiaaa", sum := "ac19c313f6c81d3b9cbfc8396be86eba682c55d10bbdc2f7cde7997378233a34", func := "batchline/batchlinelaw35.LeakSections", spec := "leakSections", unfollowed := true, recurses := true, apart := false, narrowed := true }
def LeakSectionsUptoSaid : Prop := leakSectionsUptoRow.holds Try.pinned (OpenSpec.upto leakSectionsSpec)

end Rows
end Go.Proofs.Ytnmiidccebhiaaa
