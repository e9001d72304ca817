/-
  DERIVED. GIVEN WITH THE SEED: THE CARDS: each row of YtfelabnohopfdaaGreatDoorRows.lean that lists a variable, with what it lists TIED to the program's text (the seventh form; the later family's looks); each row that meets fmt, with fmt's text TOLD by the authors' own Lean function (tested against real Go, not proved from fmt's source: count such statements apart). THE CARD IS WHAT COUNTS. Prove the row's statement (the work); the ties are given (YtfelabnohopfdaaGreatDoorTie.lean); close each card by the builder's one call (the guide's Derived/Test/ToyasCard.lean, 'card_holds'). Laid BY PROGRAM, IN A SANDBOX (cutbox-door.mjs). By AI agents, Wed Nov 11 2026. No macro, syntax, notation, axiom, sorry.
-/
import Derived.Test.YtfelabnohopfdaaGreatDoorRows
import GoSem.ClaimSeven
namespace Go.Proofs.YtfelabnohopfdaaGreatDoor
namespace Rows

/-- THE TIED CARD OF 'klippelaw55.CheckerNumbers'. -/
def checkerNumbersCard : Claim7 := { stood := { row := checkerNumbersRow, standIns := [], harness := (true, "fe1551be9f0237344e93f30b3d5c735f74c4af0f0881c2ba8dc5099259847584"), looks := true }, kinds := [], alts := [], laidByText := true, laidKinds := [.data, .data, .data], laidTests := true, laidLooks := .later }
def CheckerNumbersCardSaid : Prop := Claim7.holds Tryz.pinned (.plain (OpenSpec.ofChange checkerNumbersSpec)) checkerNumbersCard

/-- THE TIED CARD OF 'klippelaw55.CheckerOrders'. -/
def checkerOrdersCard : Claim7 := { stood := { row := checkerOrdersRow, standIns := [], harness := (true, "fe1551be9f0237344e93f30b3d5c735f74c4af0f0881c2ba8dc5099259847584"), looks := true }, kinds := [], alts := [], laidByText := true, laidKinds := [.data, .data, .data], laidTests := true, laidLooks := .later }
def CheckerOrdersCardSaid : Prop := Claim7.holds Tryz.pinned (.plain (OpenSpec.ofChange checkerOrdersSpec)) checkerOrdersCard

/-- THE SECOND FORM's CARD OF 'klippelaw55.CheckerNumbers'. -/
def checkerNumbersUptoCard : Claim7 := { stood := { row := checkerNumbersUptoRow, standIns := [], harness := (true, "fe1551be9f0237344e93f30b3d5c735f74c4af0f0881c2ba8dc5099259847584"), looks := true }, kinds := [], alts := [], laidByText := true, laidKinds := [.data, .data, .data], laidTests := true, laidLooks := .later }
def CheckerNumbersUptoCardSaid : Prop := Claim7.holds Tryz.pinned (.plain (OpenSpec.upto checkerNumbersSpec)) checkerNumbersUptoCard

/-- THE SECOND FORM's CARD OF 'klippelaw55.CheckerOrders'. -/
def checkerOrdersUptoCard : Claim7 := { stood := { row := checkerOrdersUptoRow, standIns := [], harness := (true, "fe1551be9f0237344e93f30b3d5c735f74c4af0f0881c2ba8dc5099259847584"), looks := true }, kinds := [], alts := [], laidByText := true, laidKinds := [.data, .data, .data], laidTests := true, laidLooks := .later }
def CheckerOrdersUptoCardSaid : Prop := Claim7.holds Tryz.pinned (.plain (OpenSpec.upto checkerOrdersSpec)) checkerOrdersUptoCard
end Rows
end Go.Proofs.YtfelabnohopfdaaGreatDoor
