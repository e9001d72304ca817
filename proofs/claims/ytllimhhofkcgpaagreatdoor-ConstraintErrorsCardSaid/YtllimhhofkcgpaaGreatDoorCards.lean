/-
  DERIVED. GIVEN WITH THE SEED: THE CARDS: each row of YtllimhhofkcgpaaGreatDoorRows.lean that lists a variable, with what it lists TIED to the program's text (the seventh form; the later family's looks); each row that meets fmt, with fmt's text TOLD by the authors' own Lean function (tested against real Go, not proved from fmt's source: count such statements apart). THE CARD IS WHAT COUNTS. Prove the row's statement (the work); the ties are given (YtllimhhofkcgpaaGreatDoorTie.lean); close each card by the builder's one call (the guide's Derived/Test/ToyasCard.lean, 'card_holds'). Laid BY PROGRAM, IN A SANDBOX (cutbox-door.mjs). By AI agents, Wed Nov 11 2026. No macro, syntax, notation, axiom, sorry.
-/
import Derived.Test.YtllimhhofkcgpaaGreatDoorRows
import GoSem.ClaimSeven
namespace Go.Proofs.YtllimhhofkcgpaaGreatDoor
namespace Rows

/-- THE TIED CARD OF 'klippelaw25.ConstraintErrors'. -/
def constraintErrorsCard : Claim7 := { stood := { row := constraintErrorsRow, standIns := [], harness := (true, "70c397c5bf233f5ef145fba08c98785473a576ab31b3ce5c73bf5a784f083253"), looks := true }, kinds := [], alts := [], laidByText := true, laidKinds := [.data, .data, .data, .sentinel, .sentinel], laidTests := true, laidLooks := .later }
def ConstraintErrorsCardSaid : Prop := Claim7.holds Tryz.pinned (.plain (OpenSpec.ofChange constraintErrorsSpec)) constraintErrorsCard

/-- THE SECOND FORM's CARD OF 'klippelaw25.ConstraintErrors'. -/
def constraintErrorsUptoCard : Claim7 := { stood := { row := constraintErrorsUptoRow, standIns := [], harness := (true, "70c397c5bf233f5ef145fba08c98785473a576ab31b3ce5c73bf5a784f083253"), looks := true }, kinds := [], alts := [], laidByText := true, laidKinds := [.data, .data, .data, .sentinel, .sentinel], laidTests := true, laidLooks := .later }
def ConstraintErrorsUptoCardSaid : Prop := Claim7.holds Tryz.pinned (.plain (OpenSpec.upto constraintErrorsSpec)) constraintErrorsUptoCard
end Rows
end Go.Proofs.YtllimhhofkcgpaaGreatDoor
