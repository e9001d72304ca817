/-
  DERIVED. GIVEN WITH THE SEED: THE CARDS: each row of YtifolnapeolhcaaGreatDoorRows.lean that lists a variable, with what it lists TIED to the program's text (the seventh form; the later family's looks); each row that meets fmt, with fmt's text TOLD by the authors' own Lean function (tested against real Go, not proved from fmt's source: count such statements apart). THE CARD IS WHAT COUNTS. Prove the row's statement (the work); the ties are given (YtifolnapeolhcaaGreatDoorTie.lean); close each card by the builder's one call (the guide's Derived/Test/ToyasCard.lean, 'card_holds'). Laid BY PROGRAM, IN A SANDBOX (cutbox-door.mjs). By AI agents, Wed Nov 11 2026. No macro, syntax, notation, axiom, sorry.
-/
import Derived.Test.YtifolnapeolhcaaGreatDoorRows
import GoSem.ClaimSeven
namespace Go.Proofs.YtifolnapeolhcaaGreatDoor
namespace Rows

/-- THE TIED CARD OF 'klippelaw55.CheckerDuals'. -/
def checkerDualsCard : Claim7 := { stood := { row := checkerDualsRow, standIns := [], harness := (true, "002a2cbd3438bd8cf941da320fdc88208cfa23f4d1ea1af2353b56f613aafb9f"), looks := true }, kinds := [], alts := [], laidByText := true, laidKinds := [.data, .data, .data, .sentinel, .sentinel], laidTests := true, laidLooks := .later }
def CheckerDualsCardSaid : Prop := Claim7.holds Tryz.pinned (.plain (OpenSpec.ofChange checkerDualsSpec)) checkerDualsCard

/-- THE SECOND FORM's CARD OF 'klippelaw55.CheckerDuals'. -/
def checkerDualsUptoCard : Claim7 := { stood := { row := checkerDualsUptoRow, standIns := [], harness := (true, "002a2cbd3438bd8cf941da320fdc88208cfa23f4d1ea1af2353b56f613aafb9f"), looks := true }, kinds := [], alts := [], laidByText := true, laidKinds := [.data, .data, .data, .sentinel, .sentinel], laidTests := true, laidLooks := .later }
def CheckerDualsUptoCardSaid : Prop := Claim7.holds Tryz.pinned (.plain (OpenSpec.upto checkerDualsSpec)) checkerDualsUptoCard
end Rows
end Go.Proofs.YtifolnapeolhcaaGreatDoor
