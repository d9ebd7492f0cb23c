/-
  No cell of these rows narrows 'for every input' (looked for: loops, veiled, ifaces, maps, wideKeys, modest, calm, conditions, laid).
  DERIVED. THE GIVEN ROWS OF THIS SEAT. 6 by the template 'for every input the law returns true; each argument reads behind the call as it read before'; 0 by the template 'total and deterministic' (their statements: YtmaamhgjeampmaaGreatTotals.lean).
  GIVEN WITH THE SEED: the statements are not yours to turn. If you find one false, say at which input.
  Laid BY PROGRAM, IN A SANDBOX (cutbox-rows.mjs): the forced cells as the released guide's own fill.sh prints them over the translation 841c363dbcb13015… (all of the seat's roots in one cut). By AI agents, Wed Nov 11 2026. No macro, syntax, notation, axiom, sorry.
-/
import Derived.Test.YtmaamhgjeampmaaGreatChecked
import GoSem.Claim
import GoSem.ClaimJoined
import GoSem.ClaimMapViews
import Derived.JoinedTies
import Derived.KernelRfl
namespace Go.Proofs.YtmaamhgjeampmaaGreat
/- THE CELL 'sum', in the pinned program and in every row, IS THE sha256 OF THE DUMP (.gsa) THAT YtmaamhgjeampmaaGreatProg.lean LOADS. Nothing in Lean hashes anything: it is a label: what it is worth is what the hold of that sum in a sandbox is worth. -/
noncomputable def Tryz.pinned : Pinned := { name := "ytmaamhgjeampmaagreat", sum := "841c363dbcb1301577837158ade09e7b5fdbd92115f7c12e95626187539f9aaa", checked := Tryz.checked }
namespace Rows
def none {H : Type} : Left H := { results := [], args := [] }

/-- 'batchlinelaw27.CompileArrives': WHATEVER THE INPUT: true; the input reads as it did. -/
def compileArrivesSpec : ChangeSpec := { name := "compileArrives", fn := fun _ => fun
  | [d1, d2, d3] => { results := [.lit (.bool true)], args := [d1, d2, d3] }
  | _ => none }
def compileArrivesRow : OpenClaim := { program := "ytmaamhgjeampmaagreat", sum := "841c363dbcb1301577837158ade09e7b5fdbd92115f7c12e95626187539f9aaa", func := "batchline/batchlinelaw27.CompileArrives", spec := "compileArrives", unfollowed := true, recurses := true, apart := false }
def CompileArrivesSaid : Prop := compileArrivesRow.holds Tryz.pinned (OpenSpec.ofChange compileArrivesSpec)

/-- ITS FALSE NEIGHBOUR: 'it returns false'. Refute it at one input. -/
def compileArrivesWrong : ChangeSpec := { name := "compileArrives", fn := fun _ => fun
  | [d1, d2, d3] => { results := [.lit (.bool false)], args := [d1, d2, d3] }
  | _ => none }
def CompileArrivesWrongFalsely : Prop := compileArrivesRow.holds Tryz.pinned (OpenSpec.ofChange compileArrivesWrong)

/-- 'batchlinelaw27.CompileAlike': WHATEVER THE INPUT: true; the input reads as it did. -/
def compileAlikeSpec : ChangeSpec := { name := "compileAlike", fn := fun _ => fun
  | [d] => { results := [.lit (.bool true)], args := [d] }
  | _ => none }
def compileAlikeRow : OpenClaim := { program := "ytmaamhgjeampmaagreat", sum := "841c363dbcb1301577837158ade09e7b5fdbd92115f7c12e95626187539f9aaa", func := "batchline/batchlinelaw27.CompileAlike", spec := "compileAlike", unfollowed := true, recurses := true, apart := false }
def CompileAlikeSaid : Prop := compileAlikeRow.holds Tryz.pinned (OpenSpec.ofChange compileAlikeSpec)

/-- ITS FALSE NEIGHBOUR: 'it returns false'. Refute it at one input. -/
def compileAlikeWrong : ChangeSpec := { name := "compileAlike", fn := fun _ => fun
  | [d] => { results := [.lit (.bool false)], args := [d] }
  | _ => none }
def CompileAlikeWrongFalsely : Prop := compileAlikeRow.holds Tryz.pinned (OpenSpec.ofChange compileAlikeWrong)

/-- 'batchlinelaw27.CompileThere': WHATEVER THE INPUT: true; the input reads as it did. -/
def compileThereSpec : ChangeSpec := { name := "compileThere", fn := fun _ => fun
  | [d] => { results := [.lit (.bool true)], args := [d] }
  | _ => none }
def compileThereRow : OpenClaim := { program := "ytmaamhgjeampmaagreat", sum := "841c363dbcb1301577837158ade09e7b5fdbd92115f7c12e95626187539f9aaa", func := "batchline/batchlinelaw27.CompileThere", spec := "compileThere", unfollowed := true, recurses := true, apart := false }
def CompileThereSaid : Prop := compileThereRow.holds Tryz.pinned (OpenSpec.ofChange compileThereSpec)

/-- ITS FALSE NEIGHBOUR: 'it returns false'. Refute it at one input. -/
def compileThereWrong : ChangeSpec := { name := "compileThere", fn := fun _ => fun
  | [d] => { results := [.lit (.bool false)], args := [d] }
  | _ => none }
def CompileThereWrongFalsely : Prop := compileThereRow.holds Tryz.pinned (OpenSpec.ofChange compileThereWrong)

/-- 'batchlinelaw27.CompileSums': WHATEVER THE INPUT: true; the input reads as it did. -/
def compileSumsSpec : ChangeSpec := { name := "compileSums", fn := fun _ => fun
  | [d1, d2] => { results := [.lit (.bool true)], args := [d1, d2] }
  | _ => none }
def compileSumsRow : OpenClaim := { program := "ytmaamhgjeampmaagreat", sum := "841c363dbcb1301577837158ade09e7b5fdbd92115f7c12e95626187539f9aaa", func := "batchline/batchlinelaw27.CompileSums", spec := "compileSums", unfollowed := true, recurses := true, apart := false }
def CompileSumsSaid : Prop := compileSumsRow.holds Tryz.pinned (OpenSpec.ofChange compileSumsSpec)

/-- ITS FALSE NEIGHBOUR: 'it returns false'. Refute it at one input. -/
def compileSumsWrong : ChangeSpec := { name := "compileSums", fn := fun _ => fun
  | [d1, d2] => { results := [.lit (.bool false)], args := [d1, d2] }
  | _ => none }
def CompileSumsWrongFalsely : Prop := compileSumsRow.holds Tryz.pinned (OpenSpec.ofChange compileSumsWrong)

/-- 'batchlinelaw27.CompileMade': WHATEVER THE INPUT: true; the input reads as it did. -/
def compileMadeSpec : ChangeSpec := { name := "compileMade", fn := fun _ => fun
  | [d1, d2, d3, d4] => { results := [.lit (.bool true)], args := [d1, d2, d3, d4] }
  | _ => none }
def compileMadeRow : OpenClaim := { program := "ytmaamhgjeampmaagreat", sum := "841c363dbcb1301577837158ade09e7b5fdbd92115f7c12e95626187539f9aaa", func := "batchline/batchlinelaw27.CompileMade", spec := "compileMade", unfollowed := true, recurses := true, apart := false }
def CompileMadeSaid : Prop := compileMadeRow.holds Tryz.pinned (OpenSpec.ofChange compileMadeSpec)

/-- ITS FALSE NEIGHBOUR: 'it returns false'. Refute it at one input. -/
def compileMadeWrong : ChangeSpec := { name := "compileMade", fn := fun _ => fun
  | [d1, d2, d3, d4] => { results := [.lit (.bool false)], args := [d1, d2, d3, d4] }
  | _ => none }
def CompileMadeWrongFalsely : Prop := compileMadeRow.holds Tryz.pinned (OpenSpec.ofChange compileMadeWrong)

/-- 'batchlinelaw27.CompileDown': WHATEVER THE INPUT: true; the input reads as it did. -/
def compileDownSpec : ChangeSpec := { name := "compileDown", fn := fun _ => fun
  | [d1, d2] => { results := [.lit (.bool true)], args := [d1, d2] }
  | _ => none }
def compileDownRow : OpenClaim := { program := "ytmaamhgjeampmaagreat", sum := "841c363dbcb1301577837158ade09e7b5fdbd92115f7c12e95626187539f9aaa", func := "batchline/batchlinelaw27.CompileDown", spec := "compileDown", unfollowed := true, recurses := true, apart := false }
def CompileDownSaid : Prop := compileDownRow.holds Tryz.pinned (OpenSpec.ofChange compileDownSpec)

/-- ITS FALSE NEIGHBOUR: 'it returns false'. Refute it at one input. -/
def compileDownWrong : ChangeSpec := { name := "compileDown", fn := fun _ => fun
  | [d1, d2] => { results := [.lit (.bool false)], args := [d1, d2] }
  | _ => none }
def CompileDownWrongFalsely : Prop := compileDownRow.holds Tryz.pinned (OpenSpec.ofChange compileDownWrong)

/- THE SECOND FORM. 'bulk': how many values and letters a reading holds, each counted each time it is reached (what is shared counts as often as it is met; a slice's spare places count too). A statement '..UptoSaid' is the law's where the arguments, and the package variables that the reading takes, are together of bulk at most 1048576: NARROWER than '..Said'. Prove '..Said' where nothing that the law and all that it calls make is longer than what came in: it says more and counts as full. Else prove '..UptoSaid'. A law counts once. -/
mutual
def uptoBulk {H : Type} : DataW H → Nat
  | .lit (.string bytes) => bytes.length + 1
  | .lit _ => 1
  | .nil => 1
  | .ptr d => uptoBulk d + 1
  | .slice elems spare => uptoBulkAll elems + uptoBulkAll spare + 1
  | .agg parts => uptoBulkAll parts + 1
  | .iface _ d => uptoBulk d + 1
  | .map entries => uptoBulkEntries entries + 1
  | .held _ => 1
def uptoBulkAll {H : Type} : List (DataW H) → Nat
  | [] => 0
  | d :: r => uptoBulk d + uptoBulkAll r
def uptoBulkEntries {H : Type} : List (Lit × DataW H) → Nat
  | [] => 0
  | x :: r => uptoBulkEntry x + uptoBulkEntries r
def uptoBulkEntry {H : Type} : Lit × DataW H → Nat
  | (.string bytes, d) => bytes.length + uptoBulk d + 1
  | (_, d) => uptoBulk d + 1
 end
def uptoSmall : (H : Type) → List (DataW H) → Bool := fun _ ds => decide (uptoBulkAll ds ≤ 1048576)
def OpenSpec.upto (s : _root_.Go.ChangeSpec) : _root_.Go.OpenSpec := { _root_.Go.OpenSpec.ofChange s with cond := some uptoSmall }

/-- 'batchlinelaw27.CompileArrives', WHERE WHAT IT READS IS OF BULK AT MOST 1048576: true; the input reads as it did. -/
def compileArrivesUptoRow : OpenClaim := { program := "ytmaamhgjeampmaagreat", sum := "841c363dbcb1301577837158ade09e7b5fdbd92115f7c12e95626187539f9aaa", func := "batchline/batchlinelaw27.CompileArrives", spec := "compileArrives", unfollowed := true, recurses := true, apart := false, narrowed := true }
def CompileArrivesUptoSaid : Prop := compileArrivesUptoRow.holds Tryz.pinned (OpenSpec.upto compileArrivesSpec)

/-- 'batchlinelaw27.CompileAlike', WHERE WHAT IT READS IS OF BULK AT MOST 1048576: true; the input reads as it did. -/
def compileAlikeUptoRow : OpenClaim := { program := "ytmaamhgjeampmaagreat", sum := "841c363dbcb1301577837158ade09e7b5fdbd92115f7c12e95626187539f9aaa", func := "batchline/batchlinelaw27.CompileAlike", spec := "compileAlike", unfollowed := true, recurses := true, apart := false, narrowed := true }
def CompileAlikeUptoSaid : Prop := compileAlikeUptoRow.holds Tryz.pinned (OpenSpec.upto compileAlikeSpec)

/-- 'batchlinelaw27.CompileThere', WHERE WHAT IT READS IS OF BULK AT MOST 1048576: true; the input reads as it did. -/
def compileThereUptoRow : OpenClaim := { program := "ytmaamhgjeampmaagreat", sum := "841c363dbcb1301577837158ade09e7b5fdbd92115f7c12e95626187539f9aaa", func := "batchline/batchlinelaw27.CompileThere", spec := "compileThere", unfollowed := true, recurses := true, apart := false, narrowed := true }
def CompileThereUptoSaid : Prop := compileThereUptoRow.holds Tryz.pinned (OpenSpec.upto compileThereSpec)

/-- 'batchlinelaw27.CompileSums', WHERE WHAT IT READS IS OF BULK AT MOST 1048576: true; the input reads as it did. -/
def compileSumsUptoRow : OpenClaim := { program := "ytmaamhgjeampmaagreat", sum := "841c363dbcb1301577837158ade09e7b5fdbd92115f7c12e95626187539f9aaa", func := "batchline/batchlinelaw27.CompileSums", spec := "compileSums", unfollowed := true, recurses := true, apart := false, narrowed := true }
def CompileSumsUptoSaid : Prop := compileSumsUptoRow.holds Tryz.pinned (OpenSpec.upto compileSumsSpec)

/-- 'batchlinelaw27.CompileMade', WHERE WHAT IT READS IS OF BULK AT MOST 1048576: true; the input reads as it did. -/
def compileMadeUptoRow : OpenClaim := { program := "ytmaamhgjeampmaagreat", sum := "841c363dbcb1301577837158ade09e7b5fdbd92115f7c12e95626187539f9aaa", func := "batchline/batchlinelaw27.CompileMade", spec := "compileMade", unfollowed := true, recurses := true, apart := false, narrowed := true }
def CompileMadeUptoSaid : Prop := compileMadeUptoRow.holds Tryz.pinned (OpenSpec.upto compileMadeSpec)

/-- 'batchlinelaw27.CompileDown', WHERE WHAT IT READS IS OF BULK AT MOST 1048576: true; the input reads as it did. -/
def compileDownUptoRow : OpenClaim := { program := "ytmaamhgjeampmaagreat", sum := "841c363dbcb1301577837158ade09e7b5fdbd92115f7c12e95626187539f9aaa", func := "batchline/batchlinelaw27.CompileDown", spec := "compileDown", unfollowed := true, recurses := true, apart := false, narrowed := true }
def CompileDownUptoSaid : Prop := compileDownUptoRow.holds Tryz.pinned (OpenSpec.upto compileDownSpec)

end Rows
end Go.Proofs.YtmaamhgjeampmaaGreat
