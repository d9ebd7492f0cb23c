/-
  No cell of these rows narrows 'for every input' (looked for: loops, veiled, ifaces, maps, wideKeys, modest, calm, conditions, laid).
  DERIVED. THE GIVEN ROWS OF THIS SEAT. 3 by the template 'for every input the law returns true; each argument reads behind the call as it read before'; 0 by the template 'total and deterministic' (their statements: YtihdchjpepkpbaaGreatTotals.lean).
  GIVEN WITH THE SEED: the statements are not yours to turn. If you find one false, say at which input.
  Laid BY PROGRAM, IN A SANDBOX (cutbox-rows.mjs): the forced cells as the released guide's own fill.sh prints them over the translation abc1150c8df0455d… (all of the seat's roots in one cut). By AI agents, Wed Nov 11 2026. No macro, syntax, notation, axiom, sorry.
-/
import Derived.Test.YtihdchjpepkpbaaGreatChecked
import GoSem.Claim
import GoSem.ClaimJoined
import GoSem.ClaimMapViews
import Derived.JoinedTies
import Derived.KernelRfl
namespace Go.Proofs.YtihdchjpepkpbaaGreat
/- THE CELL 'sum', in the pinned program and in every row, IS THE sha256 OF THE DUMP (.gsa) THAT YtihdchjpepkpbaaGreatProg.lean LOADS. Nothing in Lean hashes anything: it is a label: what it is worth is what the hold of that sum in a sandbox is worth. -/
noncomputable def Tryz.pinned : Pinned := { name := "ytihdchjpepkpbaagreat", sum := "abc1150c8df0455db0a78fc2ef0f7676c63b182b42109463d627d1bc2eec9af1", checked := Tryz.checked }
namespace Rows
def none {H : Type} : Left H := { results := [], args := [] }

/-- 'batchlinelaw25.PathsMade': WHATEVER THE INPUT: true; the input reads as it did. -/
def pathsMadeSpec : ChangeSpec := { name := "pathsMade", fn := fun _ => fun
  | [d1, d2, d3] => { results := [.lit (.bool true)], args := [d1, d2, d3] }
  | _ => none }
def pathsMadeRow : OpenClaim := { program := "ytihdchjpepkpbaagreat", sum := "abc1150c8df0455db0a78fc2ef0f7676c63b182b42109463d627d1bc2eec9af1", func := "batchline/batchlinelaw25.PathsMade", spec := "pathsMade", unfollowed := true, recurses := true, apart := false }
def PathsMadeSaid : Prop := pathsMadeRow.holds Tryz.pinned (OpenSpec.ofChange pathsMadeSpec)

/-- ITS FALSE NEIGHBOUR: 'it returns false'. Refute it at one input. -/
def pathsMadeWrong : ChangeSpec := { name := "pathsMade", fn := fun _ => fun
  | [d1, d2, d3] => { results := [.lit (.bool false)], args := [d1, d2, d3] }
  | _ => none }
def PathsMadeWrongFalsely : Prop := pathsMadeRow.holds Tryz.pinned (OpenSpec.ofChange pathsMadeWrong)

/-- 'batchlinelaw35.LeakMade': WHATEVER THE INPUT: true; the input reads as it did. -/
def leakMadeSpec : ChangeSpec := { name := "leakMade", fn := fun _ => fun
  | [d1, d2, d3, d4, d5] => { results := [.lit (.bool true)], args := [d1, d2, d3, d4, d5] }
  | _ => none }
def leakMadeRow : OpenClaim := { program := "ytihdchjpepkpbaagreat", sum := "abc1150c8df0455db0a78fc2ef0f7676c63b182b42109463d627d1bc2eec9af1", func := "batchline/batchlinelaw35.LeakMade", spec := "leakMade", unfollowed := true, recurses := true, apart := false }
def LeakMadeSaid : Prop := leakMadeRow.holds Tryz.pinned (OpenSpec.ofChange leakMadeSpec)

/-- ITS FALSE NEIGHBOUR: 'it returns false'. Refute it at one input. -/
def leakMadeWrong : ChangeSpec := { name := "leakMade", fn := fun _ => fun
  | [d1, d2, d3, d4, d5] => { results := [.lit (.bool false)], args := [d1, d2, d3, d4, d5] }
  | _ => none }
def LeakMadeWrongFalsely : Prop := leakMadeRow.holds Tryz.pinned (OpenSpec.ofChange leakMadeWrong)

/-- 'batchlinelaw36.IsolateRest': WHATEVER THE INPUT: true; the input reads as it did. -/
def isolateRestSpec : ChangeSpec := { name := "isolateRest", fn := fun _ => fun
  | [d] => { results := [.lit (.bool true)], args := [d] }
  | _ => none }
def isolateRestRow : OpenClaim := { program := "ytihdchjpepkpbaagreat", sum := "abc1150c8df0455db0a78fc2ef0f7676c63b182b42109463d627d1bc2eec9af1", func := "batchline/batchlinelaw36.IsolateRest", spec := "isolateRest", inPlace := ["maps.clone"], unfollowed := true, recurses := true, apart := false }
def IsolateRestSaid : Prop := isolateRestRow.holds Tryz.pinned (OpenSpec.ofChange isolateRestSpec)

/-- ITS FALSE NEIGHBOUR: 'it returns false'. Refute it at one input. -/
def isolateRestWrong : ChangeSpec := { name := "isolateRest", fn := fun _ => fun
  | [d] => { results := [.lit (.bool false)], args := [d] }
  | _ => none }
def IsolateRestWrongFalsely : Prop := isolateRestRow.holds Tryz.pinned (OpenSpec.ofChange isolateRestWrong)

/- THE SECOND FORM. 'bulk': how many values and letters a reading holds, each counted each time it is reached (what is shared counts as often as it is met; a slice's spare places count too). A statement '..UptoSaid' is the law's where the arguments, and the package variables that the reading takes, are together of bulk at most 1048576: NARROWER than '..Said'. Prove '..Said' where nothing that the law and all that it calls make is longer than what came in: it says more and counts as full. Else prove '..UptoSaid'. A law counts once. -/
mutual
def uptoBulk {H : Type} : DataW H → Nat
  | .lit (.string bytes) => bytes.length + 1
  | .lit _ => 1
  | .nil => 1
  | .ptr d => uptoBulk d + 1
  | .slice elems spare => uptoBulkAll elems + uptoBulkAll spare + 1
  | .agg parts => uptoBulkAll parts + 1
  | .iface _ d => uptoBulk d + 1
  | .map entries => uptoBulkEntries entries + 1
  | .held _ => 1
def uptoBulkAll {H : Type} : List (DataW H) → Nat
  | [] => 0
  | d :: r => uptoBulk d + uptoBulkAll r
def uptoBulkEntries {H : Type} : List (Lit × DataW H) → Nat
  | [] => 0
  | x :: r => uptoBulkEntry x + uptoBulkEntries r
def uptoBulkEntry {H : Type} : Lit × DataW H → Nat
  | (.string bytes, d) => bytes.length + uptoBulk d + 1
  | (_, d) => uptoBulk d + 1
 end
def uptoSmall : (H : Type) → List (DataW H) → Bool := fun _ ds => decide (uptoBulkAll ds ≤ 1048576)
def OpenSpec.upto (s : _root_.Go.ChangeSpec) : _root_.Go.OpenSpec := { _root_.Go.OpenSpec.ofChange s with cond := some uptoSmall }

/-- 'batchlinelaw25.PathsMade', WHERE WHAT IT READS IS OF BULK AT MOST 1048576: true; the input reads as it did. -/
def pathsMadeUptoRow : OpenClaim := { program := "ytihdchjpepkpbaagreat", sum := "abc1150c8df0455db0a78fc2ef0f7676c63b182b42109463d627d1bc2eec9af1", func := "batchline/batchlinelaw25.PathsMade", spec := "pathsMade", unfollowed := true, recurses := true, apart := false, narrowed := true }
def PathsMadeUptoSaid : Prop := pathsMadeUptoRow.holds Tryz.pinned (OpenSpec.upto pathsMadeSpec)

/-- 'batchlinelaw35.LeakMade', WHERE WHAT IT READS IS OF BULK AT MOST 1048576: true; the input reads as it did. -/
def leakMadeUptoRow : OpenClaim := { program := "ytihdchjpepkpbaagreat", sum := "abc1150c8df0455db0a78fc2ef0f7676c63b182b42109463d627d1bc2eec9af1", func := "batchline/batchlinelaw35.LeakMade", spec := "leakMade", unfollowed := true, recurses := true, apart := false, narrowed := true }
def LeakMadeUptoSaid : Prop := leakMadeUptoRow.holds Tryz.pinned (OpenSpec.upto leakMadeSpec)

/-- 'batchlinelaw36.IsolateRest', WHERE WHAT IT READS IS OF BULK AT MOST 1048576: true; the input reads as it did. -/
def isolateRestUptoRow : OpenClaim := { program := "ytihdchjpepkpbaagreat", sum := "abc1150c8df0455db0a78fc2ef0f7676c63b182b42109463d627d1bc2eec9af1", func := "batchline/batchlinelaw36.IsolateRest", spec := "isolateRest", inPlace := ["maps.clone"], unfollowed := true, recurses := true, apart := false, narrowed := true }
def IsolateRestUptoSaid : Prop := isolateRestUptoRow.holds Tryz.pinned (OpenSpec.upto isolateRestSpec)

end Rows
end Go.Proofs.YtihdchjpepkpbaaGreat
