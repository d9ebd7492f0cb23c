/-
  DERIVED. GIVEN WITH THE SEED: THE CARDS: each row of YtncfbhnecmnfpaaGreatDoorRows.lean that lists a variable, with what it lists TIED to the program's text (the seventh form; the later family's looks); each row that meets fmt, with fmt's text TOLD by the authors' own Lean function (tested against real Go, not proved from fmt's source: count such statements apart). THE CARD IS WHAT COUNTS. Prove the row's statement (the work); the ties are given (YtncfbhnecmnfpaaGreatDoorTie.lean); close each card by the builder's one call (the guide's Derived/Test/ToyasCard.lean, 'card_holds'). Laid BY PROGRAM, IN A SANDBOX (cutbox-door.mjs). By AI agents, Wed Nov 11 2026. No macro, syntax, notation, axiom, sorry.
-/
import Derived.Test.YtncfbhnecmnfpaaGreatDoorRows
import GoSem.ClaimSeven
namespace Go.Proofs.YtncfbhnecmnfpaaGreatDoor
namespace Rows

/-- THE TIED CARD OF 'batchlinelaw19.GradientEncloses'. -/
def gradientEnclosesCard : Claim7 := { stood := { row := gradientEnclosesRow, standIns := [], harness := (true, "a0888aca66024a1892438a5166d6c80205dbfba9759d9a8e105d4167ff51dfb8"), looks := false }, kinds := [], alts := [], laidByText := true, laidKinds := [.data], laidTests := true, laidLooks := .later }
def GradientEnclosesCardSaid : Prop := Claim7.holds Tryz.pinned (.plain (OpenSpec.ofChange gradientEnclosesSpec)) gradientEnclosesCard

/-- THE TIED CARD OF 'batchlinelaw19.GradientFalls'. -/
def gradientFallsCard : Claim7 := { stood := { row := gradientFallsRow, standIns := [], harness := (true, "a0888aca66024a1892438a5166d6c80205dbfba9759d9a8e105d4167ff51dfb8"), looks := false }, kinds := [], alts := [], laidByText := true, laidKinds := [.data], laidTests := true, laidLooks := .later }
def GradientFallsCardSaid : Prop := Claim7.holds Tryz.pinned (.plain (OpenSpec.ofChange gradientFallsSpec)) gradientFallsCard

/-- THE TIED CARD OF 'batchlinelaw19.GradientKeeps'. -/
def gradientKeepsCard : Claim7 := { stood := { row := gradientKeepsRow, standIns := [], harness := (true, "a0888aca66024a1892438a5166d6c80205dbfba9759d9a8e105d4167ff51dfb8"), looks := false }, kinds := [], alts := [], laidByText := true, laidKinds := [.data], laidTests := true, laidLooks := .later }
def GradientKeepsCardSaid : Prop := Claim7.holds Tryz.pinned (.plain (OpenSpec.ofChange gradientKeepsSpec)) gradientKeepsCard

/-- THE TIED CARD OF 'batchlinelaw19.GradientTurns'. -/
def gradientTurnsCard : Claim7 := { stood := { row := gradientTurnsRow, standIns := [], harness := (true, "a0888aca66024a1892438a5166d6c80205dbfba9759d9a8e105d4167ff51dfb8"), looks := false }, kinds := [], alts := [], laidByText := true, laidKinds := [.data], laidTests := true, laidLooks := .later }
def GradientTurnsCardSaid : Prop := Claim7.holds Tryz.pinned (.plain (OpenSpec.ofChange gradientTurnsSpec)) gradientTurnsCard

/-- THE TIED CARD OF 'batchlinelaw19.GradientAnswers'. -/
def gradientAnswersCard : Claim7 := { stood := { row := gradientAnswersRow, standIns := [], harness := (true, "a0888aca66024a1892438a5166d6c80205dbfba9759d9a8e105d4167ff51dfb8"), looks := false }, kinds := [], alts := [], laidByText := true, laidKinds := [.data], laidTests := true, laidLooks := .later }
def GradientAnswersCardSaid : Prop := Claim7.holds Tryz.pinned (.plain (OpenSpec.ofChange gradientAnswersSpec)) gradientAnswersCard

/-- THE TIED CARD OF 'batchlinelaw19.GradientBreaks'. -/
def gradientBreaksCard : Claim7 := { stood := { row := gradientBreaksRow, standIns := [], harness := (true, "a0888aca66024a1892438a5166d6c80205dbfba9759d9a8e105d4167ff51dfb8"), looks := false }, kinds := [], alts := [], laidByText := true, laidKinds := [.data], laidTests := true, laidLooks := .later }
def GradientBreaksCardSaid : Prop := Claim7.holds Tryz.pinned (.plain (OpenSpec.ofChange gradientBreaksSpec)) gradientBreaksCard

/-- THE SECOND FORM's CARD OF 'batchlinelaw19.GradientEncloses'. -/
def gradientEnclosesUptoCard : Claim7 := { stood := { row := gradientEnclosesUptoRow, standIns := [], harness := (true, "a0888aca66024a1892438a5166d6c80205dbfba9759d9a8e105d4167ff51dfb8"), looks := false }, kinds := [], alts := [], laidByText := true, laidKinds := [.data], laidTests := true, laidLooks := .later }
def GradientEnclosesUptoCardSaid : Prop := Claim7.holds Tryz.pinned (.plain (OpenSpec.upto gradientEnclosesSpec)) gradientEnclosesUptoCard

/-- THE SECOND FORM's CARD OF 'batchlinelaw19.GradientFalls'. -/
def gradientFallsUptoCard : Claim7 := { stood := { row := gradientFallsUptoRow, standIns := [], harness := (true, "a0888aca66024a1892438a5166d6c80205dbfba9759d9a8e105d4167ff51dfb8"), looks := false }, kinds := [], alts := [], laidByText := true, laidKinds := [.data], laidTests := true, laidLooks := .later }
def GradientFallsUptoCardSaid : Prop := Claim7.holds Tryz.pinned (.plain (OpenSpec.upto gradientFallsSpec)) gradientFallsUptoCard

/-- THE SECOND FORM's CARD OF 'batchlinelaw19.GradientKeeps'. -/
def gradientKeepsUptoCard : Claim7 := { stood := { row := gradientKeepsUptoRow, standIns := [], harness := (true, "a0888aca66024a1892438a5166d6c80205dbfba9759d9a8e105d4167ff51dfb8"), looks := false }, kinds := [], alts := [], laidByText := true, laidKinds := [.data], laidTests := true, laidLooks := .later }
def GradientKeepsUptoCardSaid : Prop := Claim7.holds Tryz.pinned (.plain (OpenSpec.upto gradientKeepsSpec)) gradientKeepsUptoCard

/-- THE SECOND FORM's CARD OF 'batchlinelaw19.GradientTurns'. -/
def gradientTurnsUptoCard : Claim7 := { stood := { row := gradientTurnsUptoRow, standIns := [], harness := (true, "a0888aca66024a1892438a5166d6c80205dbfba9759d9a8e105d4167ff51dfb8"), looks := false }, kinds := [], alts := [], laidByText := true, laidKinds := [.data], laidTests := true, laidLooks := .later }
def GradientTurnsUptoCardSaid : Prop := Claim7.holds Tryz.pinned (.plain (OpenSpec.upto gradientTurnsSpec)) gradientTurnsUptoCard

/-- THE SECOND FORM's CARD OF 'batchlinelaw19.GradientAnswers'. -/
def gradientAnswersUptoCard : Claim7 := { stood := { row := gradientAnswersUptoRow, standIns := [], harness := (true, "a0888aca66024a1892438a5166d6c80205dbfba9759d9a8e105d4167ff51dfb8"), looks := false }, kinds := [], alts := [], laidByText := true, laidKinds := [.data], laidTests := true, laidLooks := .later }
def GradientAnswersUptoCardSaid : Prop := Claim7.holds Tryz.pinned (.plain (OpenSpec.upto gradientAnswersSpec)) gradientAnswersUptoCard

/-- THE SECOND FORM's CARD OF 'batchlinelaw19.GradientBreaks'. -/
def gradientBreaksUptoCard : Claim7 := { stood := { row := gradientBreaksUptoRow, standIns := [], harness := (true, "a0888aca66024a1892438a5166d6c80205dbfba9759d9a8e105d4167ff51dfb8"), looks := false }, kinds := [], alts := [], laidByText := true, laidKinds := [.data], laidTests := true, laidLooks := .later }
def GradientBreaksUptoCardSaid : Prop := Claim7.holds Tryz.pinned (.plain (OpenSpec.upto gradientBreaksSpec)) gradientBreaksUptoCard
end Rows
end Go.Proofs.YtncfbhnecmnfpaaGreatDoor
