/-
  DERIVED. GIVEN WITH THE SEED: THE CARDS: each row of YtddjibfmnkcalaaDoorRows.lean that lists a variable, with what it lists TIED to the program's text (the seventh form; the later family's looks); each row that meets fmt, with fmt's text TOLD by the authors' own Lean function (tested against real Go, not proved from fmt's source: count such statements apart). THE CARD IS WHAT COUNTS. Prove the row's statement (the work); the ties are given (YtddjibfmnkcalaaDoorTie.lean); close each card by the builder's one call (the guide's Derived/Test/ToyasCard.lean, 'card_holds'). Laid BY PROGRAM, IN A SANDBOX (cutbox-door.mjs). By AI agents, Wed Nov 11 2026. No macro, syntax, notation, axiom, sorry.
-/
import Derived.Test.YtddjibfmnkcalaaDoorRows
import GoSem.ClaimSeven
namespace Go.Proofs.YtddjibfmnkcalaaDoor
namespace Rows

/-- THE TIED CARD OF 'klippelaw21.SuccessionLimits'. -/
def successionLimitsCard : Claim7 := { stood := { row := successionLimitsRow, standIns := [], harness := (true, "aab7af21c4a6144d080ae2349ec2d47fbdfdda4e8cb8e848723cc16d63515cc1"), looks := true }, kinds := [], alts := [], laidByText := true, laidKinds := [.data, .data, .data], laidTests := true, laidLooks := .later }
def SuccessionLimitsCardSaid : Prop := Claim7.holds Tryd.pinned (.plain (OpenSpec.ofChange successionLimitsSpec)) successionLimitsCard

/-- THE TIED CARD OF 'klippelaw21.SuccessionOrders'. -/
def successionOrdersCard : Claim7 := { stood := { row := successionOrdersRow, standIns := [], harness := (true, "aab7af21c4a6144d080ae2349ec2d47fbdfdda4e8cb8e848723cc16d63515cc1"), looks := true }, kinds := [], alts := [], laidByText := true, laidKinds := [.data, .data, .data], laidTests := true, laidLooks := .later }
def SuccessionOrdersCardSaid : Prop := Claim7.holds Tryd.pinned (.plain (OpenSpec.ofChange successionOrdersSpec)) successionOrdersCard

/-- THE TIED CARD OF 'klippelaw21.SuccessionAdds'. -/
def successionAddsCard : Claim7 := { stood := { row := successionAddsRow, standIns := [], harness := (true, "aab7af21c4a6144d080ae2349ec2d47fbdfdda4e8cb8e848723cc16d63515cc1"), looks := true }, kinds := [], alts := [], laidByText := true, laidKinds := [.data, .data, .data], laidTests := true, laidLooks := .later }
def SuccessionAddsCardSaid : Prop := Claim7.holds Tryd.pinned (.plain (OpenSpec.ofChange successionAddsSpec)) successionAddsCard

/-- THE TIED CARD OF 'klippelaw21.SuccessionChecks'. -/
def successionChecksCard : Claim7 := { stood := { row := successionChecksRow, standIns := [], harness := (true, "aab7af21c4a6144d080ae2349ec2d47fbdfdda4e8cb8e848723cc16d63515cc1"), looks := true }, kinds := [], alts := [], laidByText := true, laidKinds := [.data, .data, .data], laidTests := true, laidLooks := .later }
def SuccessionChecksCardSaid : Prop := Claim7.holds Tryd.pinned (.plain (OpenSpec.ofChange successionChecksSpec)) successionChecksCard

/-- THE SECOND FORM's CARD OF 'klippelaw21.SuccessionLimits'. -/
def successionLimitsUptoCard : Claim7 := { stood := { row := successionLimitsUptoRow, standIns := [], harness := (true, "aab7af21c4a6144d080ae2349ec2d47fbdfdda4e8cb8e848723cc16d63515cc1"), looks := true }, kinds := [], alts := [], laidByText := true, laidKinds := [.data, .data, .data], laidTests := true, laidLooks := .later }
def SuccessionLimitsUptoCardSaid : Prop := Claim7.holds Tryd.pinned (.plain (OpenSpec.upto successionLimitsSpec)) successionLimitsUptoCard

/-- THE SECOND FORM's CARD OF 'klippelaw21.SuccessionOrders'. -/
def successionOrdersUptoCard : Claim7 := { stood := { row := successionOrdersUptoRow, standIns := [], harness := (true, "aab7af21c4a6144d080ae2349ec2d47fbdfdda4e8cb8e848723cc16d63515cc1"), looks := true }, kinds := [], alts := [], laidByText := true, laidKinds := [.data, .data, .data], laidTests := true, laidLooks := .later }
def SuccessionOrdersUptoCardSaid : Prop := Claim7.holds Tryd.pinned (.plain (OpenSpec.upto successionOrdersSpec)) successionOrdersUptoCard

/-- THE SECOND FORM's CARD OF 'klippelaw21.SuccessionAdds'. -/
def successionAddsUptoCard : Claim7 := { stood := { row := successionAddsUptoRow, standIns := [], harness := (true, "aab7af21c4a6144d080ae2349ec2d47fbdfdda4e8cb8e848723cc16d63515cc1"), looks := true }, kinds := [], alts := [], laidByText := true, laidKinds := [.data, .data, .data], laidTests := true, laidLooks := .later }
def SuccessionAddsUptoCardSaid : Prop := Claim7.holds Tryd.pinned (.plain (OpenSpec.upto successionAddsSpec)) successionAddsUptoCard

/-- THE SECOND FORM's CARD OF 'klippelaw21.SuccessionChecks'. -/
def successionChecksUptoCard : Claim7 := { stood := { row := successionChecksUptoRow, standIns := [], harness := (true, "aab7af21c4a6144d080ae2349ec2d47fbdfdda4e8cb8e848723cc16d63515cc1"), looks := true }, kinds := [], alts := [], laidByText := true, laidKinds := [.data, .data, .data], laidTests := true, laidLooks := .later }
def SuccessionChecksUptoCardSaid : Prop := Claim7.holds Tryd.pinned (.plain (OpenSpec.upto successionChecksSpec)) successionChecksUptoCard
end Rows
end Go.Proofs.YtddjibfmnkcalaaDoor
