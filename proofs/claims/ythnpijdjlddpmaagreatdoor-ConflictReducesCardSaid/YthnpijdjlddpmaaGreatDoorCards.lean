/-
  DERIVED. GIVEN WITH THE SEED: THE CARDS: each row of YthnpijdjlddpmaaGreatDoorRows.lean that lists a variable, with what it lists TIED to the program's text (the seventh form; the later family's looks); each row that meets fmt, with fmt's text TOLD by the authors' own Lean function (tested against real Go, not proved from fmt's source: count such statements apart). THE CARD IS WHAT COUNTS. Prove the row's statement (the work); the ties are given (YthnpijdjlddpmaaGreatDoorTie.lean); close each card by the builder's one call (the guide's Derived/Test/ToyasCard.lean, 'card_holds'). Laid BY PROGRAM, IN A SANDBOX (cutbox-door.mjs). By AI agents, Wed Nov 11 2026. No macro, syntax, notation, axiom, sorry.
-/
import Derived.Test.YthnpijdjlddpmaaGreatDoorRows
import GoSem.ClaimSeven
namespace Go.Proofs.YthnpijdjlddpmaaGreatDoor
namespace Rows

/-- THE TIED CARD OF 'klippelaw27.ConflictRepairs'. -/
def conflictRepairsCard : Claim7 := { stood := { row := conflictRepairsRow, standIns := [], harness := (true, "a5fe7b9766eea606abf4a191da263c4ed928e5ed3c36bdf1ac4db8a14734a03c"), looks := true }, kinds := [], alts := [], laidByText := true, laidKinds := [.data, .data, .data, .sentinel, .sentinel], laidTests := true, laidLooks := .later }
def ConflictRepairsCardSaid : Prop := Claim7.holds Tryz.pinned (.plain (OpenSpec.ofChange conflictRepairsSpec)) conflictRepairsCard

/-- THE TIED CARD OF 'klippelaw27.ConflictMany'. -/
def conflictManyCard : Claim7 := { stood := { row := conflictManyRow, standIns := [], harness := (true, "a5fe7b9766eea606abf4a191da263c4ed928e5ed3c36bdf1ac4db8a14734a03c"), looks := true }, kinds := [], alts := [], laidByText := true, laidKinds := [.data, .data, .data, .sentinel, .sentinel], laidTests := true, laidLooks := .later }
def ConflictManyCardSaid : Prop := Claim7.holds Tryz.pinned (.plain (OpenSpec.ofChange conflictManySpec)) conflictManyCard

/-- THE TIED CARD OF 'klippelaw27.ConflictSmallest'. -/
def conflictSmallestCard : Claim7 := { stood := { row := conflictSmallestRow, standIns := [], harness := (true, "a5fe7b9766eea606abf4a191da263c4ed928e5ed3c36bdf1ac4db8a14734a03c"), looks := true }, kinds := [], alts := [], laidByText := true, laidKinds := [.data, .data, .data, .sentinel, .sentinel], laidTests := true, laidLooks := .later }
def ConflictSmallestCardSaid : Prop := Claim7.holds Tryz.pinned (.plain (OpenSpec.ofChange conflictSmallestSpec)) conflictSmallestCard

/-- THE TIED CARD OF 'klippelaw27.ConflictLaws'. -/
def conflictLawsCard : Claim7 := { stood := { row := conflictLawsRow, standIns := [], harness := (true, "a5fe7b9766eea606abf4a191da263c4ed928e5ed3c36bdf1ac4db8a14734a03c"), looks := true }, kinds := [], alts := [], laidByText := true, laidKinds := [.data, .data, .data, .sentinel, .sentinel], laidTests := true, laidLooks := .later }
def ConflictLawsCardSaid : Prop := Claim7.holds Tryz.pinned (.plain (OpenSpec.ofChange conflictLawsSpec)) conflictLawsCard

/-- THE TIED CARD OF 'klippelaw27.ConflictReduces'. -/
def conflictReducesCard : Claim7 := { stood := { row := conflictReducesRow, standIns := [], harness := (true, "a5fe7b9766eea606abf4a191da263c4ed928e5ed3c36bdf1ac4db8a14734a03c"), looks := true }, kinds := [], alts := [], laidByText := true, laidKinds := [.data, .data, .data, .sentinel, .sentinel], laidTests := true, laidLooks := .later }
def ConflictReducesCardSaid : Prop := Claim7.holds Tryz.pinned (.plain (OpenSpec.ofChange conflictReducesSpec)) conflictReducesCard

/-- THE TIED CARD OF 'klippelaw27.ConflictHolds'. -/
def conflictHoldsCard : Claim7 := { stood := { row := conflictHoldsRow, standIns := [], harness := (true, "a5fe7b9766eea606abf4a191da263c4ed928e5ed3c36bdf1ac4db8a14734a03c"), looks := true }, kinds := [], alts := [], laidByText := true, laidKinds := [.data, .data, .data, .sentinel, .sentinel], laidTests := true, laidLooks := .later }
def ConflictHoldsCardSaid : Prop := Claim7.holds Tryz.pinned (.plain (OpenSpec.ofChange conflictHoldsSpec)) conflictHoldsCard

/-- THE TIED CARD OF 'klippelaw27.ConflictRefutes'. -/
def conflictRefutesCard : Claim7 := { stood := { row := conflictRefutesRow, standIns := [], harness := (true, "a5fe7b9766eea606abf4a191da263c4ed928e5ed3c36bdf1ac4db8a14734a03c"), looks := true }, kinds := [], alts := [], laidByText := true, laidKinds := [.data, .data, .data, .sentinel, .sentinel], laidTests := true, laidLooks := .later }
def ConflictRefutesCardSaid : Prop := Claim7.holds Tryz.pinned (.plain (OpenSpec.ofChange conflictRefutesSpec)) conflictRefutesCard

/-- THE TIED CARD OF 'klippelaw27.ConflictErrors'. -/
def conflictErrorsCard : Claim7 := { stood := { row := conflictErrorsRow, standIns := [], harness := (true, "a5fe7b9766eea606abf4a191da263c4ed928e5ed3c36bdf1ac4db8a14734a03c"), looks := true }, kinds := [], alts := [], laidByText := true, laidKinds := [.data, .data, .data, .sentinel, .sentinel], laidTests := true, laidLooks := .later }
def ConflictErrorsCardSaid : Prop := Claim7.holds Tryz.pinned (.plain (OpenSpec.ofChange conflictErrorsSpec)) conflictErrorsCard

/-- THE SECOND FORM's CARD OF 'klippelaw27.ConflictRepairs'. -/
def conflictRepairsUptoCard : Claim7 := { stood := { row := conflictRepairsUptoRow, standIns := [], harness := (true, "a5fe7b9766eea606abf4a191da263c4ed928e5ed3c36bdf1ac4db8a14734a03c"), looks := true }, kinds := [], alts := [], laidByText := true, laidKinds := [.data, .data, .data, .sentinel, .sentinel], laidTests := true, laidLooks := .later }
def ConflictRepairsUptoCardSaid : Prop := Claim7.holds Tryz.pinned (.plain (OpenSpec.upto conflictRepairsSpec)) conflictRepairsUptoCard

/-- THE SECOND FORM's CARD OF 'klippelaw27.ConflictMany'. -/
def conflictManyUptoCard : Claim7 := { stood := { row := conflictManyUptoRow, standIns := [], harness := (true, "a5fe7b9766eea606abf4a191da263c4ed928e5ed3c36bdf1ac4db8a14734a03c"), looks := true }, kinds := [], alts := [], laidByText := true, laidKinds := [.data, .data, .data, .sentinel, .sentinel], laidTests := true, laidLooks := .later }
def ConflictManyUptoCardSaid : Prop := Claim7.holds Tryz.pinned (.plain (OpenSpec.upto conflictManySpec)) conflictManyUptoCard

/-- THE SECOND FORM's CARD OF 'klippelaw27.ConflictSmallest'. -/
def conflictSmallestUptoCard : Claim7 := { stood := { row := conflictSmallestUptoRow, standIns := [], harness := (true, "a5fe7b9766eea606abf4a191da263c4ed928e5ed3c36bdf1ac4db8a14734a03c"), looks := true }, kinds := [], alts := [], laidByText := true, laidKinds := [.data, .data, .data, .sentinel, .sentinel], laidTests := true, laidLooks := .later }
def ConflictSmallestUptoCardSaid : Prop := Claim7.holds Tryz.pinned (.plain (OpenSpec.upto conflictSmallestSpec)) conflictSmallestUptoCard

/-- THE SECOND FORM's CARD OF 'klippelaw27.ConflictLaws'. -/
def conflictLawsUptoCard : Claim7 := { stood := { row := conflictLawsUptoRow, standIns := [], harness := (true, "a5fe7b9766eea606abf4a191da263c4ed928e5ed3c36bdf1ac4db8a14734a03c"), looks := true }, kinds := [], alts := [], laidByText := true, laidKinds := [.data, .data, .data, .sentinel, .sentinel], laidTests := true, laidLooks := .later }
def ConflictLawsUptoCardSaid : Prop := Claim7.holds Tryz.pinned (.plain (OpenSpec.upto conflictLawsSpec)) conflictLawsUptoCard

/-- THE SECOND FORM's CARD OF 'klippelaw27.ConflictReduces'. -/
def conflictReducesUptoCard : Claim7 := { stood := { row := conflictReducesUptoRow, standIns := [], harness := (true, "a5fe7b9766eea606abf4a191da263c4ed928e5ed3c36bdf1ac4db8a14734a03c"), looks := true }, kinds := [], alts := [], laidByText := true, laidKinds := [.data, .data, .data, .sentinel, .sentinel], laidTests := true, laidLooks := .later }
def ConflictReducesUptoCardSaid : Prop := Claim7.holds Tryz.pinned (.plain (OpenSpec.upto conflictReducesSpec)) conflictReducesUptoCard

/-- THE SECOND FORM's CARD OF 'klippelaw27.ConflictHolds'. -/
def conflictHoldsUptoCard : Claim7 := { stood := { row := conflictHoldsUptoRow, standIns := [], harness := (true, "a5fe7b9766eea606abf4a191da263c4ed928e5ed3c36bdf1ac4db8a14734a03c"), looks := true }, kinds := [], alts := [], laidByText := true, laidKinds := [.data, .data, .data, .sentinel, .sentinel], laidTests := true, laidLooks := .later }
def ConflictHoldsUptoCardSaid : Prop := Claim7.holds Tryz.pinned (.plain (OpenSpec.upto conflictHoldsSpec)) conflictHoldsUptoCard

/-- THE SECOND FORM's CARD OF 'klippelaw27.ConflictRefutes'. -/
def conflictRefutesUptoCard : Claim7 := { stood := { row := conflictRefutesUptoRow, standIns := [], harness := (true, "a5fe7b9766eea606abf4a191da263c4ed928e5ed3c36bdf1ac4db8a14734a03c"), looks := true }, kinds := [], alts := [], laidByText := true, laidKinds := [.data, .data, .data, .sentinel, .sentinel], laidTests := true, laidLooks := .later }
def ConflictRefutesUptoCardSaid : Prop := Claim7.holds Tryz.pinned (.plain (OpenSpec.upto conflictRefutesSpec)) conflictRefutesUptoCard

/-- THE SECOND FORM's CARD OF 'klippelaw27.ConflictErrors'. -/
def conflictErrorsUptoCard : Claim7 := { stood := { row := conflictErrorsUptoRow, standIns := [], harness := (true, "a5fe7b9766eea606abf4a191da263c4ed928e5ed3c36bdf1ac4db8a14734a03c"), looks := true }, kinds := [], alts := [], laidByText := true, laidKinds := [.data, .data, .data, .sentinel, .sentinel], laidTests := true, laidLooks := .later }
def ConflictErrorsUptoCardSaid : Prop := Claim7.holds Tryz.pinned (.plain (OpenSpec.upto conflictErrorsSpec)) conflictErrorsUptoCard
end Rows
end Go.Proofs.YthnpijdjlddpmaaGreatDoor
