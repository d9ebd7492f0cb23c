/-
  DERIVED. GIVEN WITH THE SEED: THE CARDS: each row of YtehbcbedipkifaaGreatDoorRows.lean that lists a variable, with what it lists TIED to the program's text (the seventh form; the later family's looks); each row that meets fmt, with fmt's text TOLD by the authors' own Lean function (tested against real Go, not proved from fmt's source: count such statements apart). THE CARD IS WHAT COUNTS. Prove the row's statement (the work); the ties are given (YtehbcbedipkifaaGreatDoorTie.lean); close each card by the builder's one call (the guide's Derived/Test/ToyasCard.lean, 'card_holds'). Laid BY PROGRAM, IN A SANDBOX (cutbox-door.mjs). By AI agents, Wed Nov 11 2026. No macro, syntax, notation, axiom, sorry.
-/
import Derived.Test.YtehbcbedipkifaaGreatDoorRows
import GoSem.ClaimSeven
namespace Go.Proofs.YtehbcbedipkifaaGreatDoor
namespace Rows

/-- THE TIED CARD OF 'batchlinelaw21.SteadyAnswers'. -/
def steadyAnswersCard : Claim7 := { stood := { row := steadyAnswersRow, standIns := [], harness := (true, "0d83acf1f35388630b48d9aefa05b60de1aa2f2e68f18dc101854dd83621c803"), looks := false }, kinds := [], alts := [], laidByText := true, laidKinds := [.data], laidTests := true, laidLooks := .later }
def SteadyAnswersCardSaid : Prop := Claim7.holds Tryz.pinned (.plain (OpenSpec.ofChange steadyAnswersSpec)) steadyAnswersCard

/-- THE TIED CARD OF 'batchlinelaw21.SteadyKnows'. -/
def steadyKnowsCard : Claim7 := { stood := { row := steadyKnowsRow, standIns := [], harness := (true, "0d83acf1f35388630b48d9aefa05b60de1aa2f2e68f18dc101854dd83621c803"), looks := false }, kinds := [], alts := [], laidByText := true, laidKinds := [.data], laidTests := true, laidLooks := .later }
def SteadyKnowsCardSaid : Prop := Claim7.holds Tryz.pinned (.plain (OpenSpec.ofChange steadyKnowsSpec)) steadyKnowsCard

/-- THE TIED CARD OF 'batchlinelaw21.SteadyLinks'. -/
def steadyLinksCard : Claim7 := { stood := { row := steadyLinksRow, standIns := [], harness := (true, "0d83acf1f35388630b48d9aefa05b60de1aa2f2e68f18dc101854dd83621c803"), looks := false }, kinds := [], alts := [], laidByText := true, laidKinds := [.data], laidTests := true, laidLooks := .later }
def SteadyLinksCardSaid : Prop := Claim7.holds Tryz.pinned (.plain (OpenSpec.ofChange steadyLinksSpec)) steadyLinksCard

/-- THE TIED CARD OF 'batchlinelaw21.SteadyRises'. -/
def steadyRisesCard : Claim7 := { stood := { row := steadyRisesRow, standIns := [], harness := (true, "0d83acf1f35388630b48d9aefa05b60de1aa2f2e68f18dc101854dd83621c803"), looks := false }, kinds := [], alts := [], laidByText := true, laidKinds := [.data], laidTests := true, laidLooks := .later }
def SteadyRisesCardSaid : Prop := Claim7.holds Tryz.pinned (.plain (OpenSpec.ofChange steadyRisesSpec)) steadyRisesCard

/-- THE TIED CARD OF 'batchlinelaw21.SteadyBreaks'. -/
def steadyBreaksCard : Claim7 := { stood := { row := steadyBreaksRow, standIns := [], harness := (true, "0d83acf1f35388630b48d9aefa05b60de1aa2f2e68f18dc101854dd83621c803"), looks := false }, kinds := [], alts := [], laidByText := true, laidKinds := [.data], laidTests := true, laidLooks := .later }
def SteadyBreaksCardSaid : Prop := Claim7.holds Tryz.pinned (.plain (OpenSpec.ofChange steadyBreaksSpec)) steadyBreaksCard

/-- THE TIED CARD OF 'batchlinelaw21.SteadySingle'. -/
def steadySingleCard : Claim7 := { stood := { row := steadySingleRow, standIns := [], harness := (true, "0d83acf1f35388630b48d9aefa05b60de1aa2f2e68f18dc101854dd83621c803"), looks := false }, kinds := [], alts := [], laidByText := true, laidKinds := [.data], laidTests := true, laidLooks := .later }
def SteadySingleCardSaid : Prop := Claim7.holds Tryz.pinned (.plain (OpenSpec.ofChange steadySingleSpec)) steadySingleCard

/-- THE SECOND FORM's CARD OF 'batchlinelaw21.SteadyAnswers'. -/
def steadyAnswersUptoCard : Claim7 := { stood := { row := steadyAnswersUptoRow, standIns := [], harness := (true, "0d83acf1f35388630b48d9aefa05b60de1aa2f2e68f18dc101854dd83621c803"), looks := false }, kinds := [], alts := [], laidByText := true, laidKinds := [.data], laidTests := true, laidLooks := .later }
def SteadyAnswersUptoCardSaid : Prop := Claim7.holds Tryz.pinned (.plain (OpenSpec.upto steadyAnswersSpec)) steadyAnswersUptoCard

/-- THE SECOND FORM's CARD OF 'batchlinelaw21.SteadyKnows'. -/
def steadyKnowsUptoCard : Claim7 := { stood := { row := steadyKnowsUptoRow, standIns := [], harness := (true, "0d83acf1f35388630b48d9aefa05b60de1aa2f2e68f18dc101854dd83621c803"), looks := false }, kinds := [], alts := [], laidByText := true, laidKinds := [.data], laidTests := true, laidLooks := .later }
def SteadyKnowsUptoCardSaid : Prop := Claim7.holds Tryz.pinned (.plain (OpenSpec.upto steadyKnowsSpec)) steadyKnowsUptoCard

/-- THE SECOND FORM's CARD OF 'batchlinelaw21.SteadyLinks'. -/
def steadyLinksUptoCard : Claim7 := { stood := { row := steadyLinksUptoRow, standIns := [], harness := (true, "0d83acf1f35388630b48d9aefa05b60de1aa2f2e68f18dc101854dd83621c803"), looks := false }, kinds := [], alts := [], laidByText := true, laidKinds := [.data], laidTests := true, laidLooks := .later }
def SteadyLinksUptoCardSaid : Prop := Claim7.holds Tryz.pinned (.plain (OpenSpec.upto steadyLinksSpec)) steadyLinksUptoCard

/-- THE SECOND FORM's CARD OF 'batchlinelaw21.SteadyRises'. -/
def steadyRisesUptoCard : Claim7 := { stood := { row := steadyRisesUptoRow, standIns := [], harness := (true, "0d83acf1f35388630b48d9aefa05b60de1aa2f2e68f18dc101854dd83621c803"), looks := false }, kinds := [], alts := [], laidByText := true, laidKinds := [.data], laidTests := true, laidLooks := .later }
def SteadyRisesUptoCardSaid : Prop := Claim7.holds Tryz.pinned (.plain (OpenSpec.upto steadyRisesSpec)) steadyRisesUptoCard

/-- THE SECOND FORM's CARD OF 'batchlinelaw21.SteadyBreaks'. -/
def steadyBreaksUptoCard : Claim7 := { stood := { row := steadyBreaksUptoRow, standIns := [], harness := (true, "0d83acf1f35388630b48d9aefa05b60de1aa2f2e68f18dc101854dd83621c803"), looks := false }, kinds := [], alts := [], laidByText := true, laidKinds := [.data], laidTests := true, laidLooks := .later }
def SteadyBreaksUptoCardSaid : Prop := Claim7.holds Tryz.pinned (.plain (OpenSpec.upto steadyBreaksSpec)) steadyBreaksUptoCard

/-- THE SECOND FORM's CARD OF 'batchlinelaw21.SteadySingle'. -/
def steadySingleUptoCard : Claim7 := { stood := { row := steadySingleUptoRow, standIns := [], harness := (true, "0d83acf1f35388630b48d9aefa05b60de1aa2f2e68f18dc101854dd83621c803"), looks := false }, kinds := [], alts := [], laidByText := true, laidKinds := [.data], laidTests := true, laidLooks := .later }
def SteadySingleUptoCardSaid : Prop := Claim7.holds Tryz.pinned (.plain (OpenSpec.upto steadySingleSpec)) steadySingleUptoCard
end Rows
end Go.Proofs.YtehbcbedipkifaaGreatDoor
