/-
  DERIVED. GIVEN WITH THE SEED: THE CARDS: each row of YtoliaheocaoncaaGreatDoorRows.lean that lists a variable, with what it lists TIED to the program's text (the seventh form; the later family's looks); each row that meets fmt, with fmt's text TOLD by the authors' own Lean function (tested against real Go, not proved from fmt's source: count such statements apart). THE CARD IS WHAT COUNTS. Prove the row's statement (the work); the ties are given (YtoliaheocaoncaaGreatDoorTie.lean); close each card by the builder's one call (the guide's Derived/Test/ToyasCard.lean, 'card_holds'). Laid BY PROGRAM, IN A SANDBOX (cutbox-door.mjs). By AI agents, Wed Nov 11 2026. No macro, syntax, notation, axiom, sorry.
-/
import Derived.Test.YtoliaheocaoncaaGreatDoorRows
import GoSem.ClaimSeven
namespace Go.Proofs.YtoliaheocaoncaaGreatDoor
namespace Rows

/-- THE TIED CARD OF 'klippelaw55.CheckerRows'. -/
def checkerRowsCard : Claim7 := { stood := { row := checkerRowsRow, standIns := [], harness := (true, "2b634738c5fc82dba8587fa4b5689b6698eb55b2332673d5470f135cacc59ed4"), looks := true }, kinds := [], alts := [], laidByText := true, laidKinds := [.data, .data, .data, .sentinel, .sentinel], laidTests := true, laidLooks := .later }
def CheckerRowsCardSaid : Prop := Claim7.holds Tryz.pinned (.plain (OpenSpec.ofChange checkerRowsSpec)) checkerRowsCard

/-- THE SECOND FORM's CARD OF 'klippelaw55.CheckerRows'. -/
def checkerRowsUptoCard : Claim7 := { stood := { row := checkerRowsUptoRow, standIns := [], harness := (true, "2b634738c5fc82dba8587fa4b5689b6698eb55b2332673d5470f135cacc59ed4"), looks := true }, kinds := [], alts := [], laidByText := true, laidKinds := [.data, .data, .data, .sentinel, .sentinel], laidTests := true, laidLooks := .later }
def CheckerRowsUptoCardSaid : Prop := Claim7.holds Tryz.pinned (.plain (OpenSpec.upto checkerRowsSpec)) checkerRowsUptoCard
end Rows
end Go.Proofs.YtoliaheocaoncaaGreatDoor
