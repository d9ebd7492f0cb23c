/-
  DERIVED. GIVEN WITH THE SEED: THE CARDS: each row of YtodeekicjiengaaGreatDoorRows.lean that lists a variable, with what it lists TIED to the program's text (the seventh form; the later family's looks); each row that meets fmt, with fmt's text TOLD by the authors' own Lean function (tested against real Go, not proved from fmt's source: count such statements apart). THE CARD IS WHAT COUNTS. Prove the row's statement (the work); the ties are given (YtodeekicjiengaaGreatDoorTie.lean); close each card by the builder's one call (the guide's Derived/Test/ToyasCard.lean, 'card_holds'). Laid BY PROGRAM, IN A SANDBOX (cutbox-door.mjs). By AI agents, Wed Nov 11 2026. No macro, syntax, notation, axiom, sorry.
-/
import Derived.Test.YtodeekicjiengaaGreatDoorRows
import GoSem.ClaimSeven
namespace Go.Proofs.YtodeekicjiengaaGreatDoor
namespace Rows

/-- THE TIED CARD OF 'batchlinelaw22.SurgeBegins'. -/
def surgeBeginsCard : Claim7 := { stood := { row := surgeBeginsRow, standIns := [], harness := (true, "1270e8976dab1d82a5ea5e5050a3dcf88182c32645f85f3b9f9db3ce8d126162"), looks := false }, kinds := [], alts := [], laidByText := true, laidKinds := [.data], laidTests := true, laidLooks := .later }
def SurgeBeginsCardSaid : Prop := Claim7.holds Tryz.pinned (.plain (OpenSpec.ofChange surgeBeginsSpec)) surgeBeginsCard

/-- THE TIED CARD OF 'batchlinelaw22.SurgeSingle'. -/
def surgeSingleCard : Claim7 := { stood := { row := surgeSingleRow, standIns := [], harness := (true, "1270e8976dab1d82a5ea5e5050a3dcf88182c32645f85f3b9f9db3ce8d126162"), looks := false }, kinds := [], alts := [], laidByText := true, laidKinds := [.data], laidTests := true, laidLooks := .later }
def SurgeSingleCardSaid : Prop := Claim7.holds Tryz.pinned (.plain (OpenSpec.ofChange surgeSingleSpec)) surgeSingleCard

/-- THE TIED CARD OF 'batchlinelaw22.SurgeApart'. -/
def surgeApartCard : Claim7 := { stood := { row := surgeApartRow, standIns := [], harness := (true, "1270e8976dab1d82a5ea5e5050a3dcf88182c32645f85f3b9f9db3ce8d126162"), looks := false }, kinds := [], alts := [], laidByText := true, laidKinds := [.data], laidTests := true, laidLooks := .later }
def SurgeApartCardSaid : Prop := Claim7.holds Tryz.pinned (.plain (OpenSpec.ofChange surgeApartSpec)) surgeApartCard

/-- THE SECOND FORM's CARD OF 'batchlinelaw22.SurgeBegins'. -/
def surgeBeginsUptoCard : Claim7 := { stood := { row := surgeBeginsUptoRow, standIns := [], harness := (true, "1270e8976dab1d82a5ea5e5050a3dcf88182c32645f85f3b9f9db3ce8d126162"), looks := false }, kinds := [], alts := [], laidByText := true, laidKinds := [.data], laidTests := true, laidLooks := .later }
def SurgeBeginsUptoCardSaid : Prop := Claim7.holds Tryz.pinned (.plain (OpenSpec.upto surgeBeginsSpec)) surgeBeginsUptoCard

/-- THE SECOND FORM's CARD OF 'batchlinelaw22.SurgeSingle'. -/
def surgeSingleUptoCard : Claim7 := { stood := { row := surgeSingleUptoRow, standIns := [], harness := (true, "1270e8976dab1d82a5ea5e5050a3dcf88182c32645f85f3b9f9db3ce8d126162"), looks := false }, kinds := [], alts := [], laidByText := true, laidKinds := [.data], laidTests := true, laidLooks := .later }
def SurgeSingleUptoCardSaid : Prop := Claim7.holds Tryz.pinned (.plain (OpenSpec.upto surgeSingleSpec)) surgeSingleUptoCard

/-- THE SECOND FORM's CARD OF 'batchlinelaw22.SurgeApart'. -/
def surgeApartUptoCard : Claim7 := { stood := { row := surgeApartUptoRow, standIns := [], harness := (true, "1270e8976dab1d82a5ea5e5050a3dcf88182c32645f85f3b9f9db3ce8d126162"), looks := false }, kinds := [], alts := [], laidByText := true, laidKinds := [.data], laidTests := true, laidLooks := .later }
def SurgeApartUptoCardSaid : Prop := Claim7.holds Tryz.pinned (.plain (OpenSpec.upto surgeApartSpec)) surgeApartUptoCard
end Rows
end Go.Proofs.YtodeekicjiengaaGreatDoor
