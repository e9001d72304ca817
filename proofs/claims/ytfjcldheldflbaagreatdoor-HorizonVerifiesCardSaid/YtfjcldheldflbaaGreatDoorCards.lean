/-
  DERIVED. GIVEN WITH THE SEED: THE CARDS: each row of YtfjcldheldflbaaGreatDoorRows.lean that lists a variable, with what it lists TIED to the program's text (the seventh form; the later family's looks); each row that meets fmt, with fmt's text TOLD by the authors' own Lean function (tested against real Go, not proved from fmt's source: count such statements apart). THE CARD IS WHAT COUNTS. Prove the row's statement (the work); the ties are given (YtfjcldheldflbaaGreatDoorTie.lean); close each card by the builder's one call (the guide's Derived/Test/ToyasCard.lean, 'card_holds'). Laid BY PROGRAM, IN A SANDBOX (cutbox-door.mjs). By AI agents, Wed Nov 11 2026. No macro, syntax, notation, axiom, sorry.
-/
import Derived.Test.YtfjcldheldflbaaGreatDoorRows
import GoSem.ClaimSeven
namespace Go.Proofs.YtfjcldheldflbaaGreatDoor
namespace Rows

/-- THE TIED CARD OF 'klippelaw26.HorizonRanges'. -/
def horizonRangesCard : Claim7 := { stood := { row := horizonRangesRow, standIns := [], harness := (true, "11be199f78d6bb6367659023b89cc9e1c5aec87dc813edb48c0b7f5fef2494f1"), looks := true }, kinds := [], alts := [], laidByText := true, laidKinds := [.data, .data, .data, .sentinel, .sentinel], laidTests := true, laidLooks := .later }
def HorizonRangesCardSaid : Prop := Claim7.holds Tryz.pinned (.plain (OpenSpec.ofChange horizonRangesSpec)) horizonRangesCard

/-- THE TIED CARD OF 'klippelaw26.HorizonPrograms'. -/
def horizonProgramsCard : Claim7 := { stood := { row := horizonProgramsRow, standIns := [], harness := (true, "11be199f78d6bb6367659023b89cc9e1c5aec87dc813edb48c0b7f5fef2494f1"), looks := true }, kinds := [], alts := [], laidByText := true, laidKinds := [.data, .data, .data, .sentinel, .sentinel], laidTests := true, laidLooks := .later }
def HorizonProgramsCardSaid : Prop := Claim7.holds Tryz.pinned (.plain (OpenSpec.ofChange horizonProgramsSpec)) horizonProgramsCard

/-- THE TIED CARD OF 'klippelaw26.HorizonNarrows'. -/
def horizonNarrowsCard : Claim7 := { stood := { row := horizonNarrowsRow, standIns := [], harness := (true, "11be199f78d6bb6367659023b89cc9e1c5aec87dc813edb48c0b7f5fef2494f1"), looks := true }, kinds := [], alts := [], laidByText := true, laidKinds := [.data, .data, .data, .sentinel, .sentinel], laidTests := true, laidLooks := .later }
def HorizonNarrowsCardSaid : Prop := Claim7.holds Tryz.pinned (.plain (OpenSpec.ofChange horizonNarrowsSpec)) horizonNarrowsCard

/-- THE TIED CARD OF 'klippelaw26.HorizonHolds'. -/
def horizonHoldsCard : Claim7 := { stood := { row := horizonHoldsRow, standIns := [], harness := (true, "11be199f78d6bb6367659023b89cc9e1c5aec87dc813edb48c0b7f5fef2494f1"), looks := true }, kinds := [], alts := [], laidByText := true, laidKinds := [.data, .data, .data, .sentinel, .sentinel], laidTests := true, laidLooks := .later }
def HorizonHoldsCardSaid : Prop := Claim7.holds Tryz.pinned (.plain (OpenSpec.ofChange horizonHoldsSpec)) horizonHoldsCard

/-- THE TIED CARD OF 'klippelaw26.HorizonBuilds'. -/
def horizonBuildsCard : Claim7 := { stood := { row := horizonBuildsRow, standIns := [], harness := (true, "11be199f78d6bb6367659023b89cc9e1c5aec87dc813edb48c0b7f5fef2494f1"), looks := true }, kinds := [], alts := [], laidByText := true, laidKinds := [.data, .data, .data, .sentinel, .sentinel], laidTests := true, laidLooks := .later }
def HorizonBuildsCardSaid : Prop := Claim7.holds Tryz.pinned (.plain (OpenSpec.ofChange horizonBuildsSpec)) horizonBuildsCard

/-- THE TIED CARD OF 'klippelaw26.HorizonFlattest'. -/
def horizonFlattestCard : Claim7 := { stood := { row := horizonFlattestRow, standIns := [], harness := (true, "11be199f78d6bb6367659023b89cc9e1c5aec87dc813edb48c0b7f5fef2494f1"), looks := true }, kinds := [], alts := [], laidByText := true, laidKinds := [.data, .data, .data, .sentinel, .sentinel], laidTests := true, laidLooks := .later }
def HorizonFlattestCardSaid : Prop := Claim7.holds Tryz.pinned (.plain (OpenSpec.ofChange horizonFlattestSpec)) horizonFlattestCard

/-- THE TIED CARD OF 'klippelaw26.HorizonVerifies'. -/
def horizonVerifiesCard : Claim7 := { stood := { row := horizonVerifiesRow, standIns := [], harness := (true, "11be199f78d6bb6367659023b89cc9e1c5aec87dc813edb48c0b7f5fef2494f1"), looks := true }, kinds := [], alts := [], laidByText := true, laidKinds := [.data, .data, .data, .sentinel, .sentinel], laidTests := true, laidLooks := .later }
def HorizonVerifiesCardSaid : Prop := Claim7.holds Tryz.pinned (.plain (OpenSpec.ofChange horizonVerifiesSpec)) horizonVerifiesCard

/-- THE TIED CARD OF 'klippelaw26.HorizonErrors'. -/
def horizonErrorsCard : Claim7 := { stood := { row := horizonErrorsRow, standIns := [], harness := (true, "11be199f78d6bb6367659023b89cc9e1c5aec87dc813edb48c0b7f5fef2494f1"), looks := true }, kinds := [], alts := [], laidByText := true, laidKinds := [.data, .data, .data, .sentinel, .sentinel], laidTests := true, laidLooks := .later }
def HorizonErrorsCardSaid : Prop := Claim7.holds Tryz.pinned (.plain (OpenSpec.ofChange horizonErrorsSpec)) horizonErrorsCard

/-- THE SECOND FORM's CARD OF 'klippelaw26.HorizonRanges'. -/
def horizonRangesUptoCard : Claim7 := { stood := { row := horizonRangesUptoRow, standIns := [], harness := (true, "11be199f78d6bb6367659023b89cc9e1c5aec87dc813edb48c0b7f5fef2494f1"), looks := true }, kinds := [], alts := [], laidByText := true, laidKinds := [.data, .data, .data, .sentinel, .sentinel], laidTests := true, laidLooks := .later }
def HorizonRangesUptoCardSaid : Prop := Claim7.holds Tryz.pinned (.plain (OpenSpec.upto horizonRangesSpec)) horizonRangesUptoCard

/-- THE SECOND FORM's CARD OF 'klippelaw26.HorizonPrograms'. -/
def horizonProgramsUptoCard : Claim7 := { stood := { row := horizonProgramsUptoRow, standIns := [], harness := (true, "11be199f78d6bb6367659023b89cc9e1c5aec87dc813edb48c0b7f5fef2494f1"), looks := true }, kinds := [], alts := [], laidByText := true, laidKinds := [.data, .data, .data, .sentinel, .sentinel], laidTests := true, laidLooks := .later }
def HorizonProgramsUptoCardSaid : Prop := Claim7.holds Tryz.pinned (.plain (OpenSpec.upto horizonProgramsSpec)) horizonProgramsUptoCard

/-- THE SECOND FORM's CARD OF 'klippelaw26.HorizonNarrows'. -/
def horizonNarrowsUptoCard : Claim7 := { stood := { row := horizonNarrowsUptoRow, standIns := [], harness := (true, "11be199f78d6bb6367659023b89cc9e1c5aec87dc813edb48c0b7f5fef2494f1"), looks := true }, kinds := [], alts := [], laidByText := true, laidKinds := [.data, .data, .data, .sentinel, .sentinel], laidTests := true, laidLooks := .later }
def HorizonNarrowsUptoCardSaid : Prop := Claim7.holds Tryz.pinned (.plain (OpenSpec.upto horizonNarrowsSpec)) horizonNarrowsUptoCard

/-- THE SECOND FORM's CARD OF 'klippelaw26.HorizonHolds'. -/
def horizonHoldsUptoCard : Claim7 := { stood := { row := horizonHoldsUptoRow, standIns := [], harness := (true, "11be199f78d6bb6367659023b89cc9e1c5aec87dc813edb48c0b7f5fef2494f1"), looks := true }, kinds := [], alts := [], laidByText := true, laidKinds := [.data, .data, .data, .sentinel, .sentinel], laidTests := true, laidLooks := .later }
def HorizonHoldsUptoCardSaid : Prop := Claim7.holds Tryz.pinned (.plain (OpenSpec.upto horizonHoldsSpec)) horizonHoldsUptoCard

/-- THE SECOND FORM's CARD OF 'klippelaw26.HorizonBuilds'. -/
def horizonBuildsUptoCard : Claim7 := { stood := { row := horizonBuildsUptoRow, standIns := [], harness := (true, "11be199f78d6bb6367659023b89cc9e1c5aec87dc813edb48c0b7f5fef2494f1"), looks := true }, kinds := [], alts := [], laidByText := true, laidKinds := [.data, .data, .data, .sentinel, .sentinel], laidTests := true, laidLooks := .later }
def HorizonBuildsUptoCardSaid : Prop := Claim7.holds Tryz.pinned (.plain (OpenSpec.upto horizonBuildsSpec)) horizonBuildsUptoCard

/-- THE SECOND FORM's CARD OF 'klippelaw26.HorizonFlattest'. -/
def horizonFlattestUptoCard : Claim7 := { stood := { row := horizonFlattestUptoRow, standIns := [], harness := (true, "11be199f78d6bb6367659023b89cc9e1c5aec87dc813edb48c0b7f5fef2494f1"), looks := true }, kinds := [], alts := [], laidByText := true, laidKinds := [.data, .data, .data, .sentinel, .sentinel], laidTests := true, laidLooks := .later }
def HorizonFlattestUptoCardSaid : Prop := Claim7.holds Tryz.pinned (.plain (OpenSpec.upto horizonFlattestSpec)) horizonFlattestUptoCard

/-- THE SECOND FORM's CARD OF 'klippelaw26.HorizonVerifies'. -/
def horizonVerifiesUptoCard : Claim7 := { stood := { row := horizonVerifiesUptoRow, standIns := [], harness := (true, "11be199f78d6bb6367659023b89cc9e1c5aec87dc813edb48c0b7f5fef2494f1"), looks := true }, kinds := [], alts := [], laidByText := true, laidKinds := [.data, .data, .data, .sentinel, .sentinel], laidTests := true, laidLooks := .later }
def HorizonVerifiesUptoCardSaid : Prop := Claim7.holds Tryz.pinned (.plain (OpenSpec.upto horizonVerifiesSpec)) horizonVerifiesUptoCard

/-- THE SECOND FORM's CARD OF 'klippelaw26.HorizonErrors'. -/
def horizonErrorsUptoCard : Claim7 := { stood := { row := horizonErrorsUptoRow, standIns := [], harness := (true, "11be199f78d6bb6367659023b89cc9e1c5aec87dc813edb48c0b7f5fef2494f1"), looks := true }, kinds := [], alts := [], laidByText := true, laidKinds := [.data, .data, .data, .sentinel, .sentinel], laidTests := true, laidLooks := .later }
def HorizonErrorsUptoCardSaid : Prop := Claim7.holds Tryz.pinned (.plain (OpenSpec.upto horizonErrorsSpec)) horizonErrorsUptoCard
end Rows
end Go.Proofs.YtfjcldheldflbaaGreatDoor
