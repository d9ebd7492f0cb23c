/-
  DERIVED. GIVEN WITH THE SEED: THE CARDS: each row of YtkhcdkioehdndaaGreatDoorRows.lean that lists a variable, with what it lists TIED to the program's text (the seventh form; the later family's looks); each row that meets fmt, with fmt's text TOLD by the authors' own Lean function (tested against real Go, not proved from fmt's source: count such statements apart). THE CARD IS WHAT COUNTS. Prove the row's statement (the work); the ties are given (YtkhcdkioehdndaaGreatDoorTie.lean); close each card by the builder's one call (the guide's Derived/Test/ToyasCard.lean, 'card_holds'). Laid BY PROGRAM, IN A SANDBOX (cutbox-door.mjs). By AI agents, Wed Nov 11 2026. No macro, syntax, notation, axiom, sorry.
-/
import Derived.Test.YtkhcdkioehdndaaGreatDoorRows
import GoSem.ClaimSeven
namespace Go.Proofs.YtkhcdkioehdndaaGreatDoor
namespace Rows

/-- THE TIED CARD OF 'batchlinelaw19.GradientFalls'. -/
def gradientFallsCard : Claim7 := { stood := { row := gradientFallsRow, standIns := [], harness := (true, "9a471f9900eade0c39c1bbf6cd62def14c1c8ddc35fd95ec55da4861613aef50"), looks := false }, kinds := [], alts := [], laidByText := true, laidKinds := [.data], laidTests := true, laidLooks := .later }
def GradientFallsCardSaid : Prop := Claim7.holds Tryz.pinned (.plain (OpenSpec.ofChange gradientFallsSpec)) gradientFallsCard

/-- THE TIED CARD OF 'batchlinelaw19.GradientAnswers'. -/
def gradientAnswersCard : Claim7 := { stood := { row := gradientAnswersRow, standIns := [], harness := (true, "9a471f9900eade0c39c1bbf6cd62def14c1c8ddc35fd95ec55da4861613aef50"), looks := false }, kinds := [], alts := [], laidByText := true, laidKinds := [.data], laidTests := true, laidLooks := .later }
def GradientAnswersCardSaid : Prop := Claim7.holds Tryz.pinned (.plain (OpenSpec.ofChange gradientAnswersSpec)) gradientAnswersCard

/-- THE SECOND FORM's CARD OF 'batchlinelaw19.GradientFalls'. -/
def gradientFallsUptoCard : Claim7 := { stood := { row := gradientFallsUptoRow, standIns := [], harness := (true, "9a471f9900eade0c39c1bbf6cd62def14c1c8ddc35fd95ec55da4861613aef50"), looks := false }, kinds := [], alts := [], laidByText := true, laidKinds := [.data], laidTests := true, laidLooks := .later }
def GradientFallsUptoCardSaid : Prop := Claim7.holds Tryz.pinned (.plain (OpenSpec.upto gradientFallsSpec)) gradientFallsUptoCard

/-- THE SECOND FORM's CARD OF 'batchlinelaw19.GradientAnswers'. -/
def gradientAnswersUptoCard : Claim7 := { stood := { row := gradientAnswersUptoRow, standIns := [], harness := (true, "9a471f9900eade0c39c1bbf6cd62def14c1c8ddc35fd95ec55da4861613aef50"), looks := false }, kinds := [], alts := [], laidByText := true, laidKinds := [.data], laidTests := true, laidLooks := .later }
def GradientAnswersUptoCardSaid : Prop := Claim7.holds Tryz.pinned (.plain (OpenSpec.upto gradientAnswersSpec)) gradientAnswersUptoCard
end Rows
end Go.Proofs.YtkhcdkioehdndaaGreatDoor
