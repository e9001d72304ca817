/-
  DERIVED. GIVEN WITH THE SEED: THE CARDS: each row of YtjhmlnebikbdbaaGreatDoorRows.lean that lists a variable, with what it lists TIED to the program's text (the seventh form; the later family's looks); each row that meets fmt, with fmt's text TOLD by the authors' own Lean function (tested against real Go, not proved from fmt's source: count such statements apart). THE CARD IS WHAT COUNTS. Prove the row's statement (the work); the ties are given (YtjhmlnebikbdbaaGreatDoorTie.lean); close each card by the builder's one call (the guide's Derived/Test/ToyasCard.lean, 'card_holds'). Laid BY PROGRAM, IN A SANDBOX (cutbox-door.mjs). By AI agents, Wed Nov 11 2026. No macro, syntax, notation, axiom, sorry.
-/
import Derived.Test.YtjhmlnebikbdbaaGreatDoorRows
import GoSem.ClaimSeven
namespace Go.Proofs.YtjhmlnebikbdbaaGreatDoor
namespace Rows

/-- THE TIED CARD OF 'klippelaw55.CheckerAlignments'. -/
def checkerAlignmentsCard : Claim7 := { stood := { row := checkerAlignmentsRow, standIns := [], harness := (true, "154d18caec192e8e8ac2ef5a406dc3c72772c419c92088c2aeb6d6eefbd3f963"), looks := true }, kinds := [], alts := [], laidByText := true, laidKinds := [.data, .data, .data, .sentinel, .sentinel], laidTests := true, laidLooks := .later }
def CheckerAlignmentsCardSaid : Prop := Claim7.holds Tryz.pinned (.plain (OpenSpec.ofChange checkerAlignmentsSpec)) checkerAlignmentsCard

/-- THE SECOND FORM's CARD OF 'klippelaw55.CheckerAlignments'. -/
def checkerAlignmentsUptoCard : Claim7 := { stood := { row := checkerAlignmentsUptoRow, standIns := [], harness := (true, "154d18caec192e8e8ac2ef5a406dc3c72772c419c92088c2aeb6d6eefbd3f963"), looks := true }, kinds := [], alts := [], laidByText := true, laidKinds := [.data, .data, .data, .sentinel, .sentinel], laidTests := true, laidLooks := .later }
def CheckerAlignmentsUptoCardSaid : Prop := Claim7.holds Tryz.pinned (.plain (OpenSpec.upto checkerAlignmentsSpec)) checkerAlignmentsUptoCard
end Rows
end Go.Proofs.YtjhmlnebikbdbaaGreatDoor
