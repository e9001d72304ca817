/-
  No cell of these rows narrows 'for every input' (looked for: loops, veiled, ifaces, maps, wideKeys, modest, calm, conditions, laid).
  DERIVED. THE GIVEN ROWS OF THIS SEAT. 8 by the template 'for every input the law returns true; each argument reads behind the call as it read before'; 0 by the template 'total and deterministic' (their statements: YtcghlfepfcagbaaGreatTotals.lean).
  GIVEN WITH THE SEED: the statements are not yours to turn. If you find one false, say at which input.
  Laid BY PROGRAM, IN A SANDBOX (cutbox-rows.mjs): the forced cells as the released guide's own fill.sh prints them over the translation c5d98191ec66b806… (all of the seat's roots in one cut). By AI agents, Wed Nov 11 2026. No macro, syntax, notation, axiom, sorry.
-/
import Derived.Test.YtcghlfepfcagbaaGreatChecked
import GoSem.Claim
import GoSem.ClaimJoined
import GoSem.ClaimMapViews
import Derived.JoinedTies
import Derived.KernelRfl
namespace Go.Proofs.YtcghlfepfcagbaaGreat
/- THE CELL 'sum', in the pinned program and in every row, IS THE sha256 OF THE DUMP (.gsa) THAT YtcghlfepfcagbaaGreatProg.lean LOADS. Nothing in Lean hashes anything: it is a label: what it is worth is what the hold of that sum in a sandbox is worth. -/
noncomputable def Tryz.pinned : Pinned := { name := "ytcghlfepfcagbaagreat", sum := "c5d98191ec66b806733b82053b998eba050732bbfd592ab279217cfe9b96bfef", checked := Tryz.checked }
namespace Rows
def none {H : Type} : Left H := { results := [], args := [] }

/-- 'klippelaw23.ContradictionCycles': WHATEVER THE INPUT: true; the input reads as it did. -/
def contradictionCyclesSpec : ChangeSpec := { name := "contradictionCycles", fn := fun _ => fun
  | [d] => { results := [.lit (.bool true)], args := [d] }
  | _ => none }
def contradictionCyclesRow : OpenClaim := { program := "ytcghlfepfcagbaagreat", sum := "c5d98191ec66b806733b82053b998eba050732bbfd592ab279217cfe9b96bfef", func := "klippe/klippelaw23.ContradictionCycles", spec := "contradictionCycles", unfollowed := true, recurses := true, apart := false }
def ContradictionCyclesSaid : Prop := contradictionCyclesRow.holds Tryz.pinned (OpenSpec.ofChange contradictionCyclesSpec)

/-- ITS FALSE NEIGHBOUR: 'it returns false'. Refute it at one input. -/
def contradictionCyclesWrong : ChangeSpec := { name := "contradictionCycles", fn := fun _ => fun
  | [d] => { results := [.lit (.bool false)], args := [d] }
  | _ => none }
def ContradictionCyclesWrongFalsely : Prop := contradictionCyclesRow.holds Tryz.pinned (OpenSpec.ofChange contradictionCyclesWrong)

/-- 'klippelaw23.ContradictionRepairs': WHATEVER THE INPUT: true; the input reads as it did. -/
def contradictionRepairsSpec : ChangeSpec := { name := "contradictionRepairs", fn := fun _ => fun
  | [d] => { results := [.lit (.bool true)], args := [d] }
  | _ => none }
def contradictionRepairsRow : OpenClaim := { program := "ytcghlfepfcagbaagreat", sum := "c5d98191ec66b806733b82053b998eba050732bbfd592ab279217cfe9b96bfef", func := "klippe/klippelaw23.ContradictionRepairs", spec := "contradictionRepairs", unfollowed := true, recurses := true, apart := false }
def ContradictionRepairsSaid : Prop := contradictionRepairsRow.holds Tryz.pinned (OpenSpec.ofChange contradictionRepairsSpec)

/-- ITS FALSE NEIGHBOUR: 'it returns false'. Refute it at one input. -/
def contradictionRepairsWrong : ChangeSpec := { name := "contradictionRepairs", fn := fun _ => fun
  | [d] => { results := [.lit (.bool false)], args := [d] }
  | _ => none }
def ContradictionRepairsWrongFalsely : Prop := contradictionRepairsRow.holds Tryz.pinned (OpenSpec.ofChange contradictionRepairsWrong)

/-- 'klippelaw23.ContradictionKnots': WHATEVER THE INPUT: true; the input reads as it did. -/
def contradictionKnotsSpec : ChangeSpec := { name := "contradictionKnots", fn := fun _ => fun
  | [d] => { results := [.lit (.bool true)], args := [d] }
  | _ => none }
def contradictionKnotsRow : OpenClaim := { program := "ytcghlfepfcagbaagreat", sum := "c5d98191ec66b806733b82053b998eba050732bbfd592ab279217cfe9b96bfef", func := "klippe/klippelaw23.ContradictionKnots", spec := "contradictionKnots", unfollowed := true, recurses := true, apart := false }
def ContradictionKnotsSaid : Prop := contradictionKnotsRow.holds Tryz.pinned (OpenSpec.ofChange contradictionKnotsSpec)

/-- ITS FALSE NEIGHBOUR: 'it returns false'. Refute it at one input. -/
def contradictionKnotsWrong : ChangeSpec := { name := "contradictionKnots", fn := fun _ => fun
  | [d] => { results := [.lit (.bool false)], args := [d] }
  | _ => none }
def ContradictionKnotsWrongFalsely : Prop := contradictionKnotsRow.holds Tryz.pinned (OpenSpec.ofChange contradictionKnotsWrong)

/-- 'klippelaw23.ContradictionThrough': WHATEVER THE INPUT: true; the input reads as it did. -/
def contradictionThroughSpec : ChangeSpec := { name := "contradictionThrough", fn := fun _ => fun
  | [d] => { results := [.lit (.bool true)], args := [d] }
  | _ => none }
def contradictionThroughRow : OpenClaim := { program := "ytcghlfepfcagbaagreat", sum := "c5d98191ec66b806733b82053b998eba050732bbfd592ab279217cfe9b96bfef", func := "klippe/klippelaw23.ContradictionThrough", spec := "contradictionThrough", unfollowed := true, recurses := true, apart := false }
def ContradictionThroughSaid : Prop := contradictionThroughRow.holds Tryz.pinned (OpenSpec.ofChange contradictionThroughSpec)

/-- ITS FALSE NEIGHBOUR: 'it returns false'. Refute it at one input. -/
def contradictionThroughWrong : ChangeSpec := { name := "contradictionThrough", fn := fun _ => fun
  | [d] => { results := [.lit (.bool false)], args := [d] }
  | _ => none }
def ContradictionThroughWrongFalsely : Prop := contradictionThroughRow.holds Tryz.pinned (OpenSpec.ofChange contradictionThroughWrong)

/-- 'klippelaw23.ContradictionSets': WHATEVER THE INPUT: true; the input reads as it did. -/
def contradictionSetsSpec : ChangeSpec := { name := "contradictionSets", fn := fun _ => fun
  | [d1, d2] => { results := [.lit (.bool true)], args := [d1, d2] }
  | _ => none }
def contradictionSetsRow : OpenClaim := { program := "ytcghlfepfcagbaagreat", sum := "c5d98191ec66b806733b82053b998eba050732bbfd592ab279217cfe9b96bfef", func := "klippe/klippelaw23.ContradictionSets", spec := "contradictionSets", unfollowed := true, recurses := true, apart := false }
def ContradictionSetsSaid : Prop := contradictionSetsRow.holds Tryz.pinned (OpenSpec.ofChange contradictionSetsSpec)

/-- ITS FALSE NEIGHBOUR: 'it returns false'. Refute it at one input. -/
def contradictionSetsWrong : ChangeSpec := { name := "contradictionSets", fn := fun _ => fun
  | [d1, d2] => { results := [.lit (.bool false)], args := [d1, d2] }
  | _ => none }
def ContradictionSetsWrongFalsely : Prop := contradictionSetsRow.holds Tryz.pinned (OpenSpec.ofChange contradictionSetsWrong)

/-- 'klippelaw23.ContradictionLaws': WHATEVER THE INPUT: true; the input reads as it did. -/
def contradictionLawsSpec : ChangeSpec := { name := "contradictionLaws", fn := fun _ => fun
  | [d] => { results := [.lit (.bool true)], args := [d] }
  | _ => none }
def contradictionLawsRow : OpenClaim := { program := "ytcghlfepfcagbaagreat", sum := "c5d98191ec66b806733b82053b998eba050732bbfd592ab279217cfe9b96bfef", func := "klippe/klippelaw23.ContradictionLaws", spec := "contradictionLaws", unfollowed := true, recurses := true, apart := false }
def ContradictionLawsSaid : Prop := contradictionLawsRow.holds Tryz.pinned (OpenSpec.ofChange contradictionLawsSpec)

/-- ITS FALSE NEIGHBOUR: 'it returns false'. Refute it at one input. -/
def contradictionLawsWrong : ChangeSpec := { name := "contradictionLaws", fn := fun _ => fun
  | [d] => { results := [.lit (.bool false)], args := [d] }
  | _ => none }
def ContradictionLawsWrongFalsely : Prop := contradictionLawsRow.holds Tryz.pinned (OpenSpec.ofChange contradictionLawsWrong)

/-- 'klippelaw23.ContradictionDepends': WHATEVER THE INPUT: true; the input reads as it did. -/
def contradictionDependsSpec : ChangeSpec := { name := "contradictionDepends", fn := fun _ => fun
  | [d1, d2] => { results := [.lit (.bool true)], args := [d1, d2] }
  | _ => none }
def contradictionDependsRow : OpenClaim := { program := "ytcghlfepfcagbaagreat", sum := "c5d98191ec66b806733b82053b998eba050732bbfd592ab279217cfe9b96bfef", func := "klippe/klippelaw23.ContradictionDepends", spec := "contradictionDepends", unfollowed := true, recurses := true, apart := false }
def ContradictionDependsSaid : Prop := contradictionDependsRow.holds Tryz.pinned (OpenSpec.ofChange contradictionDependsSpec)

/-- ITS FALSE NEIGHBOUR: 'it returns false'. Refute it at one input. -/
def contradictionDependsWrong : ChangeSpec := { name := "contradictionDepends", fn := fun _ => fun
  | [d1, d2] => { results := [.lit (.bool false)], args := [d1, d2] }
  | _ => none }
def ContradictionDependsWrongFalsely : Prop := contradictionDependsRow.holds Tryz.pinned (OpenSpec.ofChange contradictionDependsWrong)

/-- 'klippelaw23.ContradictionErrors': WHATEVER THE INPUT: true; the input reads as it did. -/
def contradictionErrorsSpec : ChangeSpec := { name := "contradictionErrors", fn := fun _ => fun
  | [d1, d2, d3] => { results := [.lit (.bool true)], args := [d1, d2, d3] }
  | _ => none }
def contradictionErrorsRow : OpenClaim := { program := "ytcghlfepfcagbaagreat", sum := "c5d98191ec66b806733b82053b998eba050732bbfd592ab279217cfe9b96bfef", func := "klippe/klippelaw23.ContradictionErrors", spec := "contradictionErrors", unfollowed := true, recurses := true, apart := false }
def ContradictionErrorsSaid : Prop := contradictionErrorsRow.holds Tryz.pinned (OpenSpec.ofChange contradictionErrorsSpec)

/-- ITS FALSE NEIGHBOUR: 'it returns false'. Refute it at one input. -/
def contradictionErrorsWrong : ChangeSpec := { name := "contradictionErrors", fn := fun _ => fun
  | [d1, d2, d3] => { results := [.lit (.bool false)], args := [d1, d2, d3] }
  | _ => none }
def ContradictionErrorsWrongFalsely : Prop := contradictionErrorsRow.holds Tryz.pinned (OpenSpec.ofChange contradictionErrorsWrong)

/- THE SECOND FORM. 'bulk': how many values and letters a reading holds, each counted each time it is reached (what is shared counts as often as it is met; a slice's spare places count too). A statement '..UptoSaid' is the law's where the arguments, and the package variables that the reading takes, are together of bulk at most 1048576: NARROWER than '..Said'. Prove '..Said' where nothing that the law and all that it calls make is longer than what came in: it says more and counts as full. Else prove '..UptoSaid'. A law counts once. -/
mutual
def uptoBulk {H : Type} : DataW H → Nat
  | .lit (.string bytes) => bytes.length + 1
  | .lit _ => 1
  | .nil => 1
  | .ptr d => uptoBulk d + 1
  | .slice elems spare => uptoBulkAll elems + uptoBulkAll spare + 1
  | .agg parts => uptoBulkAll parts + 1
  | .iface _ d => uptoBulk d + 1
  | .map entries => uptoBulkEntries entries + 1
  | .held _ => 1
def uptoBulkAll {H : Type} : List (DataW H) → Nat
  | [] => 0
  | d :: r => uptoBulk d + uptoBulkAll r
def uptoBulkEntries {H : Type} : List (Lit × DataW H) → Nat
  | [] => 0
  | x :: r => uptoBulkEntry x + uptoBulkEntries r
def uptoBulkEntry {H : Type} : Lit × DataW H → Nat
  | (.string bytes, d) => bytes.length + uptoBulk d + 1
  | (_, d) => uptoBulk d + 1
 end
def uptoSmall : (H : Type) → List (DataW H) → Bool := fun _ ds => decide (uptoBulkAll ds ≤ 1048576)
def OpenSpec.upto (s : _root_.Go.ChangeSpec) : _root_.Go.OpenSpec := { _root_.Go.OpenSpec.ofChange s with cond := some uptoSmall }

/-- 'klippelaw23.ContradictionCycles', WHERE WHAT IT READS IS OF BULK AT MOST 1048576: true; the input reads as it did. -/
def contradictionCyclesUptoRow : OpenClaim := { program := "ytcghlfepfcagbaagreat", sum := "c5d98191ec66b806733b82053b998eba050732bbfd592ab279217cfe9b96bfef", func := "klippe/klippelaw23.ContradictionCycles", spec := "contradictionCycles", unfollowed := true, recurses := true, apart := false, narrowed := true }
def ContradictionCyclesUptoSaid : Prop := contradictionCyclesUptoRow.holds Tryz.pinned (OpenSpec.upto contradictionCyclesSpec)

/-- 'klippelaw23.ContradictionRepairs', WHERE WHAT IT READS IS OF BULK AT MOST 1048576: true; the input reads as it did. -/
def contradictionRepairsUptoRow : OpenClaim := { program := "ytcghlfepfcagbaagreat", sum := "c5d98191ec66b806733b82053b998eba050732bbfd592ab279217cfe9b96bfef", func := "klippe/klippelaw23.ContradictionRepairs", spec := "contradictionRepairs", unfollowed := true, recurses := true, apart := false, narrowed := true }
def ContradictionRepairsUptoSaid : Prop := contradictionRepairsUptoRow.holds Tryz.pinned (OpenSpec.upto contradictionRepairsSpec)

/-- 'klippelaw23.ContradictionKnots', WHERE WHAT IT READS IS OF BULK AT MOST 1048576: true; the input reads as it did. -/
def contradictionKnotsUptoRow : OpenClaim := { program := "ytcghlfepfcagbaagreat", sum := "c5d98191ec66b806733b82053b998eba050732bbfd592ab279217cfe9b96bfef", func := "klippe/klippelaw23.ContradictionKnots", spec := "contradictionKnots", unfollowed := true, recurses := true, apart := false, narrowed := true }
def ContradictionKnotsUptoSaid : Prop := contradictionKnotsUptoRow.holds Tryz.pinned (OpenSpec.upto contradictionKnotsSpec)

/-- 'klippelaw23.ContradictionThrough', WHERE WHAT IT READS IS OF BULK AT MOST 1048576: true; the input reads as it did. -/
def contradictionThroughUptoRow : OpenClaim := { program := "ytcghlfepfcagbaagreat", sum := "c5d98191ec66b806733b82053b998eba050732bbfd592ab279217cfe9b96bfef", func := "klippe/klippelaw23.ContradictionThrough", spec := "contradictionThrough", unfollowed := true, recurses := true, apart := false, narrowed := true }
def ContradictionThroughUptoSaid : Prop := contradictionThroughUptoRow.holds Tryz.pinned (OpenSpec.upto contradictionThroughSpec)

/-- 'klippelaw23.ContradictionSets', WHERE WHAT IT READS IS OF BULK AT MOST 1048576: true; the input reads as it did. -/
def contradictionSetsUptoRow : OpenClaim := { program := "ytcghlfepfcagbaagreat", sum := "c5d98191ec66b806733b82053b998eba050732bbfd592ab279217cfe9b96bfef", func := "klippe/klippelaw23.ContradictionSets", spec := "contradictionSets", unfollowed := true, recurses := true, apart := false, narrowed := true }
def ContradictionSetsUptoSaid : Prop := contradictionSetsUptoRow.holds Tryz.pinned (OpenSpec.upto contradictionSetsSpec)

/-- 'klippelaw23.ContradictionLaws', WHERE WHAT IT READS IS OF BULK AT MOST 1048576: true; the input reads as it did. -/
def contradictionLawsUptoRow : OpenClaim := { program := "ytcghlfepfcagbaagreat", sum := "c5d98191ec66b806733b82053b998eba050732bbfd592ab279217cfe9b96bfef", func := "klippe/klippelaw23.ContradictionLaws", spec := "contradictionLaws", unfollowed := true, recurses := true, apart := false, narrowed := true }
def ContradictionLawsUptoSaid : Prop := contradictionLawsUptoRow.holds Tryz.pinned (OpenSpec.upto contradictionLawsSpec)

/-- 'klippelaw23.ContradictionDepends', WHERE WHAT IT READS IS OF BULK AT MOST 1048576: true; the input reads as it did. -/
def contradictionDependsUptoRow : OpenClaim := { program := "ytcghlfepfcagbaagreat", sum := "c5d98191ec66b806733b82053b998eba050732bbfd592ab279217cfe9b96bfef", func := "klippe/klippelaw23.ContradictionDepends", spec := "contradictionDepends", unfollowed := true, recurses := true, apart := false, narrowed := true }
def ContradictionDependsUptoSaid : Prop := contradictionDependsUptoRow.holds Tryz.pinned (OpenSpec.upto contradictionDependsSpec)

/-- 'klippelaw23.ContradictionErrors', WHERE WHAT IT READS IS OF BULK AT MOST 1048576: true; the input reads as it did. -/
def contradictionErrorsUptoRow : OpenClaim := { program := "ytcghlfepfcagbaagreat", sum := "c5d98191ec66b806733b82053b998eba050732bbfd592ab279217cfe9b96bfef", func := "klippe/klippelaw23.ContradictionErrors", spec := "contradictionErrors", unfollowed := true, recurses := true, apart := false, narrowed := true }
def ContradictionErrorsUptoSaid : Prop := contradictionErrorsUptoRow.holds Tryz.pinned (OpenSpec.upto contradictionErrorsSpec)

end Rows
end Go.Proofs.YtcghlfepfcagbaaGreat
