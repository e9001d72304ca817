/-
  DERIVED. GIVEN WITH THE SEED: THE CARDS: each row of YtmgkekjbbodicaaGreatDoorRows.lean that lists a variable, with what it lists TIED to the program's text (the seventh form; the later family's looks); each row that meets fmt, with fmt's text TOLD by the authors' own Lean function (tested against real Go, not proved from fmt's source: count such statements apart). THE CARD IS WHAT COUNTS. Prove the row's statement (the work); the ties are given (YtmgkekjbbodicaaGreatDoorTie.lean); close each card by the builder's one call (the guide's Derived/Test/ToyasCard.lean, 'card_holds'). Laid BY PROGRAM, IN A SANDBOX (cutbox-door.mjs). By AI agents, Wed Nov 11 2026. No macro, syntax, notation, axiom, sorry.
-/
import Derived.Test.YtmgkekjbbodicaaGreatDoorRows
import GoSem.ClaimSeven
namespace Go.Proofs.YtmgkekjbbodicaaGreatDoor
namespace Rows

/-- THE TIED CARD OF 'klippelaw25.ConstraintVariables'. -/
def constraintVariablesCard : Claim7 := { stood := { row := constraintVariablesRow, standIns := [], harness := (true, "722a34eeb22138038866f76e2b83c42a9788734b73d954d967a733afb50ee54e"), looks := true }, kinds := [], alts := [], laidByText := true, laidKinds := [.data, .data, .data, .sentinel, .sentinel], laidTests := true, laidLooks := .later }
def ConstraintVariablesCardSaid : Prop := Claim7.holds Tryz.pinned (.plain (OpenSpec.ofChange constraintVariablesSpec)) constraintVariablesCard

/-- THE TIED CARD OF 'klippelaw25.ConstraintMany'. -/
def constraintManyCard : Claim7 := { stood := { row := constraintManyRow, standIns := [], harness := (true, "722a34eeb22138038866f76e2b83c42a9788734b73d954d967a733afb50ee54e"), looks := true }, kinds := [], alts := [], laidByText := true, laidKinds := [.data, .data, .data, .sentinel, .sentinel], laidTests := true, laidLooks := .later }
def ConstraintManyCardSaid : Prop := Claim7.holds Tryz.pinned (.plain (OpenSpec.ofChange constraintManySpec)) constraintManyCard

/-- THE TIED CARD OF 'klippelaw25.ConstraintRows'. -/
def constraintRowsCard : Claim7 := { stood := { row := constraintRowsRow, standIns := [], harness := (true, "722a34eeb22138038866f76e2b83c42a9788734b73d954d967a733afb50ee54e"), looks := true }, kinds := [], alts := [], laidByText := true, laidKinds := [.data, .data, .data, .sentinel, .sentinel], laidTests := true, laidLooks := .later }
def ConstraintRowsCardSaid : Prop := Claim7.holds Tryz.pinned (.plain (OpenSpec.ofChange constraintRowsSpec)) constraintRowsCard

/-- THE TIED CARD OF 'klippelaw25.ConstraintValues'. -/
def constraintValuesCard : Claim7 := { stood := { row := constraintValuesRow, standIns := [], harness := (true, "722a34eeb22138038866f76e2b83c42a9788734b73d954d967a733afb50ee54e"), looks := true }, kinds := [], alts := [], laidByText := true, laidKinds := [.data, .data, .data, .sentinel, .sentinel], laidTests := true, laidLooks := .later }
def ConstraintValuesCardSaid : Prop := Claim7.holds Tryz.pinned (.plain (OpenSpec.ofChange constraintValuesSpec)) constraintValuesCard

/-- THE TIED CARD OF 'klippelaw25.ConstraintChosen'. -/
def constraintChosenCard : Claim7 := { stood := { row := constraintChosenRow, standIns := [], harness := (true, "722a34eeb22138038866f76e2b83c42a9788734b73d954d967a733afb50ee54e"), looks := true }, kinds := [], alts := [], laidByText := true, laidKinds := [.data, .data, .data, .sentinel, .sentinel], laidTests := true, laidLooks := .later }
def ConstraintChosenCardSaid : Prop := Claim7.holds Tryz.pinned (.plain (OpenSpec.ofChange constraintChosenSpec)) constraintChosenCard

/-- THE TIED CARD OF 'klippelaw25.ConstraintFails'. -/
def constraintFailsCard : Claim7 := { stood := { row := constraintFailsRow, standIns := [], harness := (true, "722a34eeb22138038866f76e2b83c42a9788734b73d954d967a733afb50ee54e"), looks := true }, kinds := [], alts := [], laidByText := true, laidKinds := [.data, .data, .data, .sentinel, .sentinel], laidTests := true, laidLooks := .later }
def ConstraintFailsCardSaid : Prop := Claim7.holds Tryz.pinned (.plain (OpenSpec.ofChange constraintFailsSpec)) constraintFailsCard

/-- THE TIED CARD OF 'klippelaw25.ConstraintMeans'. -/
def constraintMeansCard : Claim7 := { stood := { row := constraintMeansRow, standIns := [], harness := (true, "722a34eeb22138038866f76e2b83c42a9788734b73d954d967a733afb50ee54e"), looks := true }, kinds := [], alts := [], laidByText := true, laidKinds := [.data, .data, .data, .sentinel, .sentinel], laidTests := true, laidLooks := .later }
def ConstraintMeansCardSaid : Prop := Claim7.holds Tryz.pinned (.plain (OpenSpec.ofChange constraintMeansSpec)) constraintMeansCard

/-- THE TIED CARD OF 'klippelaw25.ConstraintErrors'. -/
def constraintErrorsCard : Claim7 := { stood := { row := constraintErrorsRow, standIns := [], harness := (true, "722a34eeb22138038866f76e2b83c42a9788734b73d954d967a733afb50ee54e"), looks := true }, kinds := [], alts := [], laidByText := true, laidKinds := [.data, .data, .data, .sentinel, .sentinel], laidTests := true, laidLooks := .later }
def ConstraintErrorsCardSaid : Prop := Claim7.holds Tryz.pinned (.plain (OpenSpec.ofChange constraintErrorsSpec)) constraintErrorsCard

/-- THE SECOND FORM's CARD OF 'klippelaw25.ConstraintVariables'. -/
def constraintVariablesUptoCard : Claim7 := { stood := { row := constraintVariablesUptoRow, standIns := [], harness := (true, "722a34eeb22138038866f76e2b83c42a9788734b73d954d967a733afb50ee54e"), looks := true }, kinds := [], alts := [], laidByText := true, laidKinds := [.data, .data, .data, .sentinel, .sentinel], laidTests := true, laidLooks := .later }
def ConstraintVariablesUptoCardSaid : Prop := Claim7.holds Tryz.pinned (.plain (OpenSpec.upto constraintVariablesSpec)) constraintVariablesUptoCard

/-- THE SECOND FORM's CARD OF 'klippelaw25.ConstraintMany'. -/
def constraintManyUptoCard : Claim7 := { stood := { row := constraintManyUptoRow, standIns := [], harness := (true, "722a34eeb22138038866f76e2b83c42a9788734b73d954d967a733afb50ee54e"), looks := true }, kinds := [], alts := [], laidByText := true, laidKinds := [.data, .data, .data, .sentinel, .sentinel], laidTests := true, laidLooks := .later }
def ConstraintManyUptoCardSaid : Prop := Claim7.holds Tryz.pinned (.plain (OpenSpec.upto constraintManySpec)) constraintManyUptoCard

/-- THE SECOND FORM's CARD OF 'klippelaw25.ConstraintRows'. -/
def constraintRowsUptoCard : Claim7 := { stood := { row := constraintRowsUptoRow, standIns := [], harness := (true, "722a34eeb22138038866f76e2b83c42a9788734b73d954d967a733afb50ee54e"), looks := true }, kinds := [], alts := [], laidByText := true, laidKinds := [.data, .data, .data, .sentinel, .sentinel], laidTests := true, laidLooks := .later }
def ConstraintRowsUptoCardSaid : Prop := Claim7.holds Tryz.pinned (.plain (OpenSpec.upto constraintRowsSpec)) constraintRowsUptoCard

/-- THE SECOND FORM's CARD OF 'klippelaw25.ConstraintValues'. -/
def constraintValuesUptoCard : Claim7 := { stood := { row := constraintValuesUptoRow, standIns := [], harness := (true, "722a34eeb22138038866f76e2b83c42a9788734b73d954d967a733afb50ee54e"), looks := true }, kinds := [], alts := [], laidByText := true, laidKinds := [.data, .data, .data, .sentinel, .sentinel], laidTests := true, laidLooks := .later }
def ConstraintValuesUptoCardSaid : Prop := Claim7.holds Tryz.pinned (.plain (OpenSpec.upto constraintValuesSpec)) constraintValuesUptoCard

/-- THE SECOND FORM's CARD OF 'klippelaw25.ConstraintChosen'. -/
def constraintChosenUptoCard : Claim7 := { stood := { row := constraintChosenUptoRow, standIns := [], harness := (true, "722a34eeb22138038866f76e2b83c42a9788734b73d954d967a733afb50ee54e"), looks := true }, kinds := [], alts := [], laidByText := true, laidKinds := [.data, .data, .data, .sentinel, .sentinel], laidTests := true, laidLooks := .later }
def ConstraintChosenUptoCardSaid : Prop := Claim7.holds Tryz.pinned (.plain (OpenSpec.upto constraintChosenSpec)) constraintChosenUptoCard

/-- THE SECOND FORM's CARD OF 'klippelaw25.ConstraintFails'. -/
def constraintFailsUptoCard : Claim7 := { stood := { row := constraintFailsUptoRow, standIns := [], harness := (true, "722a34eeb22138038866f76e2b83c42a9788734b73d954d967a733afb50ee54e"), looks := true }, kinds := [], alts := [], laidByText := true, laidKinds := [.data, .data, .data, .sentinel, .sentinel], laidTests := true, laidLooks := .later }
def ConstraintFailsUptoCardSaid : Prop := Claim7.holds Tryz.pinned (.plain (OpenSpec.upto constraintFailsSpec)) constraintFailsUptoCard

/-- THE SECOND FORM's CARD OF 'klippelaw25.ConstraintMeans'. -/
def constraintMeansUptoCard : Claim7 := { stood := { row := constraintMeansUptoRow, standIns := [], harness := (true, "722a34eeb22138038866f76e2b83c42a9788734b73d954d967a733afb50ee54e"), looks := true }, kinds := [], alts := [], laidByText := true, laidKinds := [.data, .data, .data, .sentinel, .sentinel], laidTests := true, laidLooks := .later }
def ConstraintMeansUptoCardSaid : Prop := Claim7.holds Tryz.pinned (.plain (OpenSpec.upto constraintMeansSpec)) constraintMeansUptoCard

/-- THE SECOND FORM's CARD OF 'klippelaw25.ConstraintErrors'. -/
def constraintErrorsUptoCard : Claim7 := { stood := { row := constraintErrorsUptoRow, standIns := [], harness := (true, "722a34eeb22138038866f76e2b83c42a9788734b73d954d967a733afb50ee54e"), looks := true }, kinds := [], alts := [], laidByText := true, laidKinds := [.data, .data, .data, .sentinel, .sentinel], laidTests := true, laidLooks := .later }
def ConstraintErrorsUptoCardSaid : Prop := Claim7.holds Tryz.pinned (.plain (OpenSpec.upto constraintErrorsSpec)) constraintErrorsUptoCard
end Rows
end Go.Proofs.YtmgkekjbbodicaaGreatDoor
