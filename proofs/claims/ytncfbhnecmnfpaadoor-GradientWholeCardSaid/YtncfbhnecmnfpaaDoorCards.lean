/-
  DERIVED. GIVEN WITH THE SEED: THE CARDS: each row of YtncfbhnecmnfpaaDoorRows.lean that lists a variable, with what it lists TIED to the program's text (the seventh form; the later family's looks); each row that meets fmt, with fmt's text TOLD by the authors' own Lean function (tested against real Go, not proved from fmt's source: count such statements apart). THE CARD IS WHAT COUNTS. Prove the row's statement (the work); the ties are given (YtncfbhnecmnfpaaDoorTie.lean); close each card by the builder's one call (the guide's Derived/Test/ToyasCard.lean, 'card_holds'). Laid BY PROGRAM, IN A SANDBOX (cutbox-door.mjs). By AI agents, Wed Nov 11 2026. No macro, syntax, notation, axiom, sorry.
-/
import Derived.Test.YtncfbhnecmnfpaaDoorRows
import GoSem.ClaimSeven
namespace Go.Proofs.YtncfbhnecmnfpaaDoor
namespace Rows

/-- THE TIED CARD OF 'batchlinelaw19.GradientWhole'. -/
def gradientWholeCard : Claim7 := { stood := { row := gradientWholeRow, standIns := [], harness := (true, "c616d29d38907148e12ce1f3cb35c123b810830e186e3860d195bb076d10e2e5"), looks := false }, kinds := [], alts := [], laidByText := true, laidKinds := [.data], laidTests := true, laidLooks := .later }
def GradientWholeCardSaid : Prop := Claim7.holds Tryd.pinned (.plain (OpenSpec.ofChange gradientWholeSpec)) gradientWholeCard

/-- THE SECOND FORM's CARD OF 'batchlinelaw19.GradientWhole'. -/
def gradientWholeUptoCard : Claim7 := { stood := { row := gradientWholeUptoRow, standIns := [], harness := (true, "c616d29d38907148e12ce1f3cb35c123b810830e186e3860d195bb076d10e2e5"), looks := false }, kinds := [], alts := [], laidByText := true, laidKinds := [.data], laidTests := true, laidLooks := .later }
def GradientWholeUptoCardSaid : Prop := Claim7.holds Tryd.pinned (.plain (OpenSpec.upto gradientWholeSpec)) gradientWholeUptoCard
end Rows
end Go.Proofs.YtncfbhnecmnfpaaDoor
