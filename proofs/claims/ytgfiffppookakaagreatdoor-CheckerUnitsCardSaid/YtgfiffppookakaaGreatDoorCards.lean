/-
  DERIVED. GIVEN WITH THE SEED: THE CARDS: each row of YtgfiffppookakaaGreatDoorRows.lean that lists a variable, with what it lists TIED to the program's text (the seventh form; the later family's looks); each row that meets fmt, with fmt's text TOLD by the authors' own Lean function (tested against real Go, not proved from fmt's source: count such statements apart). THE CARD IS WHAT COUNTS. Prove the row's statement (the work); the ties are given (YtgfiffppookakaaGreatDoorTie.lean); close each card by the builder's one call (the guide's Derived/Test/ToyasCard.lean, 'card_holds'). Laid BY PROGRAM, IN A SANDBOX (cutbox-door.mjs). By AI agents, Wed Nov 11 2026. No macro, syntax, notation, axiom, sorry.
-/
import Derived.Test.YtgfiffppookakaaGreatDoorRows
import GoSem.ClaimSeven
namespace Go.Proofs.YtgfiffppookakaaGreatDoor
namespace Rows

/-- THE TIED CARD OF 'klippelaw55.CheckerUnits'. -/
def checkerUnitsCard : Claim7 := { stood := { row := checkerUnitsRow, standIns := [], harness := (true, "498849efb0e06d03e31958a692df98e9a96d80a1e999685fce0a3972fdff2739"), looks := true }, kinds := [], alts := [], laidByText := true, laidKinds := [.data, .data, .data, .sentinel, .sentinel], laidTests := true, laidLooks := .later }
def CheckerUnitsCardSaid : Prop := Claim7.holds Tryz.pinned (.plain (OpenSpec.ofChange checkerUnitsSpec)) checkerUnitsCard

/-- THE SECOND FORM's CARD OF 'klippelaw55.CheckerUnits'. -/
def checkerUnitsUptoCard : Claim7 := { stood := { row := checkerUnitsUptoRow, standIns := [], harness := (true, "498849efb0e06d03e31958a692df98e9a96d80a1e999685fce0a3972fdff2739"), looks := true }, kinds := [], alts := [], laidByText := true, laidKinds := [.data, .data, .data, .sentinel, .sentinel], laidTests := true, laidLooks := .later }
def CheckerUnitsUptoCardSaid : Prop := Claim7.holds Tryz.pinned (.plain (OpenSpec.upto checkerUnitsSpec)) checkerUnitsUptoCard
end Rows
end Go.Proofs.YtgfiffppookakaaGreatDoor
