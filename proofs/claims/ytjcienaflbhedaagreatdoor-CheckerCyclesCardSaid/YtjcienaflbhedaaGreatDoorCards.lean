/-
  DERIVED. GIVEN WITH THE SEED: THE CARDS: each row of YtjcienaflbhedaaGreatDoorRows.lean that lists a variable, with what it lists TIED to the program's text (the seventh form; the later family's looks); each row that meets fmt, with fmt's text TOLD by the authors' own Lean function (tested against real Go, not proved from fmt's source: count such statements apart). THE CARD IS WHAT COUNTS. Prove the row's statement (the work); the ties are given (YtjcienaflbhedaaGreatDoorTie.lean); close each card by the builder's one call (the guide's Derived/Test/ToyasCard.lean, 'card_holds'). Laid BY PROGRAM, IN A SANDBOX (cutbox-door.mjs). By AI agents, Wed Nov 11 2026. No macro, syntax, notation, axiom, sorry.
-/
import Derived.Test.YtjcienaflbhedaaGreatDoorRows
import GoSem.ClaimSeven
namespace Go.Proofs.YtjcienaflbhedaaGreatDoor
namespace Rows

/-- THE TIED CARD OF 'klippelaw55.CheckerNumbers'. -/
def checkerNumbersCard : Claim7 := { stood := { row := checkerNumbersRow, standIns := [], harness := (true, "287af5328521e6e4efc673452297fc358036fd4e38c30e5824ba8b404b09f605"), looks := false }, kinds := [], alts := [], laidByText := true, laidKinds := [.data, .data, .data], laidTests := true, laidLooks := .later }
def CheckerNumbersCardSaid : Prop := Claim7.holds Tryz.pinned (.plain (OpenSpec.ofChange checkerNumbersSpec)) checkerNumbersCard

/-- THE TIED CARD OF 'klippelaw55.CheckerNever'. -/
def checkerNeverCard : Claim7 := { stood := { row := checkerNeverRow, standIns := [], harness := (true, "287af5328521e6e4efc673452297fc358036fd4e38c30e5824ba8b404b09f605"), looks := false }, kinds := [], alts := [], laidByText := true, laidKinds := [.data, .data, .data], laidTests := true, laidLooks := .later }
def CheckerNeverCardSaid : Prop := Claim7.holds Tryz.pinned (.plain (OpenSpec.ofChange checkerNeverSpec)) checkerNeverCard

/-- THE TIED CARD OF 'klippelaw55.CheckerCycles'. -/
def checkerCyclesCard : Claim7 := { stood := { row := checkerCyclesRow, standIns := [], harness := (true, "287af5328521e6e4efc673452297fc358036fd4e38c30e5824ba8b404b09f605"), looks := false }, kinds := [], alts := [], laidByText := true, laidKinds := [.data, .data, .data], laidTests := true, laidLooks := .later }
def CheckerCyclesCardSaid : Prop := Claim7.holds Tryz.pinned (.plain (OpenSpec.ofChange checkerCyclesSpec)) checkerCyclesCard

/-- THE SECOND FORM's CARD OF 'klippelaw55.CheckerNumbers'. -/
def checkerNumbersUptoCard : Claim7 := { stood := { row := checkerNumbersUptoRow, standIns := [], harness := (true, "287af5328521e6e4efc673452297fc358036fd4e38c30e5824ba8b404b09f605"), looks := false }, kinds := [], alts := [], laidByText := true, laidKinds := [.data, .data, .data], laidTests := true, laidLooks := .later }
def CheckerNumbersUptoCardSaid : Prop := Claim7.holds Tryz.pinned (.plain (OpenSpec.upto checkerNumbersSpec)) checkerNumbersUptoCard

/-- THE SECOND FORM's CARD OF 'klippelaw55.CheckerNever'. -/
def checkerNeverUptoCard : Claim7 := { stood := { row := checkerNeverUptoRow, standIns := [], harness := (true, "287af5328521e6e4efc673452297fc358036fd4e38c30e5824ba8b404b09f605"), looks := false }, kinds := [], alts := [], laidByText := true, laidKinds := [.data, .data, .data], laidTests := true, laidLooks := .later }
def CheckerNeverUptoCardSaid : Prop := Claim7.holds Tryz.pinned (.plain (OpenSpec.upto checkerNeverSpec)) checkerNeverUptoCard

/-- THE SECOND FORM's CARD OF 'klippelaw55.CheckerCycles'. -/
def checkerCyclesUptoCard : Claim7 := { stood := { row := checkerCyclesUptoRow, standIns := [], harness := (true, "287af5328521e6e4efc673452297fc358036fd4e38c30e5824ba8b404b09f605"), looks := false }, kinds := [], alts := [], laidByText := true, laidKinds := [.data, .data, .data], laidTests := true, laidLooks := .later }
def CheckerCyclesUptoCardSaid : Prop := Claim7.holds Tryz.pinned (.plain (OpenSpec.upto checkerCyclesSpec)) checkerCyclesUptoCard
end Rows
end Go.Proofs.YtjcienaflbhedaaGreatDoor
