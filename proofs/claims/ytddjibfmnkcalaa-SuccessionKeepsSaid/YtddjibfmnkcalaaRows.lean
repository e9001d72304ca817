/-
  No cell of these rows narrows 'for every input' (looked for: loops, veiled, ifaces, maps, wideKeys, modest, calm, conditions, laid).
  DERIVED. THE GIVEN ROWS OF THIS SEAT. 6 by the template 'for every input the law returns true; each argument reads behind the call as it read before'; 0 by the template 'total and deterministic' (their statements: YtddjibfmnkcalaaTotals.lean).
  GIVEN WITH THE SEED: the statements are not yours to turn. If you find one false, say at which input.
  Laid BY PROGRAM, IN A SANDBOX (cutbox-rows.mjs): the forced cells as the released guide's own fill.sh prints them over the translation b0923b9e919f00be… (all of the seat's roots in one cut). By AI agents, Wed Nov 11 2026. No macro, syntax, notation, axiom, sorry.
-/
import Derived.Test.YtddjibfmnkcalaaChecked
import GoSem.Claim
import GoSem.ClaimJoined
import GoSem.ClaimMapViews
import Derived.JoinedTies
import Derived.KernelRfl
namespace Go.Proofs.Ytddjibfmnkcalaa
/- THE CELL 'sum', in the pinned program and in every row, IS THE sha256 OF THE DUMP (.gsa) THAT YtddjibfmnkcalaaProg.lean LOADS. Nothing in Lean hashes anything: it is a label: what it is worth is what the hold of that sum in a sandbox is worth. -/
noncomputable def Try.pinned : Pinned := { name := "ytddjibfmnkcalaa", sum := "b0923b9e919f00be74835e33c1b03e80fd5ec53d055385aec13c6a0b6cd36deb", checked := Try.checked }
namespace Rows
def none {H : Type} : Left H := { results := [], args := [] }

/-- 'klippelaw21.SuccessionRanks': WHATEVER THE INPUT: true; the input reads as it did. -/
def successionRanksSpec : ChangeSpec := { name := "successionRanks", fn := fun _ => fun
  | [d] => { results := [.lit (.bool true)], args := [d] }
  | _ => none }
def successionRanksRow : OpenClaim := { program := "ytddjibfmnkcalaa", sum := "b0923b9e919f00be74835e33c1b03e80fd5ec53d055385aec13c6a0b6cd36deb", func := "klippe/klippelaw21.SuccessionRanks", spec := "successionRanks", unfollowed := true, recurses := true, apart := false }
def SuccessionRanksSaid : Prop := successionRanksRow.holds Try.pinned (OpenSpec.ofChange successionRanksSpec)

/-- ITS FALSE NEIGHBOUR: 'it returns false'. Refute it at one input. -/
def successionRanksWrong : ChangeSpec := { name := "successionRanks", fn := fun _ => fun
  | [d] => { results := [.lit (.bool false)], args := [d] }
  | _ => none }
def SuccessionRanksWrongFalsely : Prop := successionRanksRow.holds Try.pinned (OpenSpec.ofChange successionRanksWrong)

/-- 'klippelaw21.SuccessionTurns': WHATEVER THE INPUT: true; the input reads as it did. -/
def successionTurnsSpec : ChangeSpec := { name := "successionTurns", fn := fun _ => fun
  | [d] => { results := [.lit (.bool true)], args := [d] }
  | _ => none }
def successionTurnsRow : OpenClaim := { program := "ytddjibfmnkcalaa", sum := "b0923b9e919f00be74835e33c1b03e80fd5ec53d055385aec13c6a0b6cd36deb", func := "klippe/klippelaw21.SuccessionTurns", spec := "successionTurns", unfollowed := true, recurses := true, apart := false }
def SuccessionTurnsSaid : Prop := successionTurnsRow.holds Try.pinned (OpenSpec.ofChange successionTurnsSpec)

/-- ITS FALSE NEIGHBOUR: 'it returns false'. Refute it at one input. -/
def successionTurnsWrong : ChangeSpec := { name := "successionTurns", fn := fun _ => fun
  | [d] => { results := [.lit (.bool false)], args := [d] }
  | _ => none }
def SuccessionTurnsWrongFalsely : Prop := successionTurnsRow.holds Try.pinned (OpenSpec.ofChange successionTurnsWrong)

/-- 'klippelaw21.SuccessionCycles': WHATEVER THE INPUT: true; the input reads as it did. -/
def successionCyclesSpec : ChangeSpec := { name := "successionCycles", fn := fun _ => fun
  | [d] => { results := [.lit (.bool true)], args := [d] }
  | _ => none }
def successionCyclesRow : OpenClaim := { program := "ytddjibfmnkcalaa", sum := "b0923b9e919f00be74835e33c1b03e80fd5ec53d055385aec13c6a0b6cd36deb", func := "klippe/klippelaw21.SuccessionCycles", spec := "successionCycles", unfollowed := true, recurses := true, apart := false }
def SuccessionCyclesSaid : Prop := successionCyclesRow.holds Try.pinned (OpenSpec.ofChange successionCyclesSpec)

/-- ITS FALSE NEIGHBOUR: 'it returns false'. Refute it at one input. -/
def successionCyclesWrong : ChangeSpec := { name := "successionCycles", fn := fun _ => fun
  | [d] => { results := [.lit (.bool false)], args := [d] }
  | _ => none }
def SuccessionCyclesWrongFalsely : Prop := successionCyclesRow.holds Try.pinned (OpenSpec.ofChange successionCyclesWrong)

/-- 'klippelaw21.SuccessionOlder': WHATEVER THE INPUT: true; the input reads as it did. -/
def successionOlderSpec : ChangeSpec := { name := "successionOlder", fn := fun _ => fun
  | [d1, d2, d3] => { results := [.lit (.bool true)], args := [d1, d2, d3] }
  | _ => none }
def successionOlderRow : OpenClaim := { program := "ytddjibfmnkcalaa", sum := "b0923b9e919f00be74835e33c1b03e80fd5ec53d055385aec13c6a0b6cd36deb", func := "klippe/klippelaw21.SuccessionOlder", spec := "successionOlder", unfollowed := true, recurses := true, apart := false }
def SuccessionOlderSaid : Prop := successionOlderRow.holds Try.pinned (OpenSpec.ofChange successionOlderSpec)

/-- ITS FALSE NEIGHBOUR: 'it returns false'. Refute it at one input. -/
def successionOlderWrong : ChangeSpec := { name := "successionOlder", fn := fun _ => fun
  | [d1, d2, d3] => { results := [.lit (.bool false)], args := [d1, d2, d3] }
  | _ => none }
def SuccessionOlderWrongFalsely : Prop := successionOlderRow.holds Try.pinned (OpenSpec.ofChange successionOlderWrong)

/-- 'klippelaw21.SuccessionPairs': WHATEVER THE INPUT: true; the input reads as it did. -/
def successionPairsSpec : ChangeSpec := { name := "successionPairs", fn := fun _ => fun
  | [d] => { results := [.lit (.bool true)], args := [d] }
  | _ => none }
def successionPairsRow : OpenClaim := { program := "ytddjibfmnkcalaa", sum := "b0923b9e919f00be74835e33c1b03e80fd5ec53d055385aec13c6a0b6cd36deb", func := "klippe/klippelaw21.SuccessionPairs", spec := "successionPairs", unfollowed := true, recurses := true, apart := false }
def SuccessionPairsSaid : Prop := successionPairsRow.holds Try.pinned (OpenSpec.ofChange successionPairsSpec)

/-- ITS FALSE NEIGHBOUR: 'it returns false'. Refute it at one input. -/
def successionPairsWrong : ChangeSpec := { name := "successionPairs", fn := fun _ => fun
  | [d] => { results := [.lit (.bool false)], args := [d] }
  | _ => none }
def SuccessionPairsWrongFalsely : Prop := successionPairsRow.holds Try.pinned (OpenSpec.ofChange successionPairsWrong)

/-- 'klippelaw21.SuccessionKeeps': WHATEVER THE INPUT: true; the input reads as it did. -/
def successionKeepsSpec : ChangeSpec := { name := "successionKeeps", fn := fun _ => fun
  | [d1, d2] => { results := [.lit (.bool true)], args := [d1, d2] }
  | _ => none }
def successionKeepsRow : OpenClaim := { program := "ytddjibfmnkcalaa", sum := "b0923b9e919f00be74835e33c1b03e80fd5ec53d055385aec13c6a0b6cd36deb", func := "klippe/klippelaw21.SuccessionKeeps", spec := "successionKeeps", unfollowed := true, recurses := true, apart := false }
def SuccessionKeepsSaid : Prop := successionKeepsRow.holds Try.pinned (OpenSpec.ofChange successionKeepsSpec)

/-- ITS FALSE NEIGHBOUR: 'it returns false'. Refute it at one input. -/
def successionKeepsWrong : ChangeSpec := { name := "successionKeeps", fn := fun _ => fun
  | [d1, d2] => { results := [.lit (.bool false)], args := [d1, d2] }
  | _ => none }
def SuccessionKeepsWrongFalsely : Prop := successionKeepsRow.holds Try.pinned (OpenSpec.ofChange successionKeepsWrong)

/- THE SECOND FORM. 'bulk': how many values and letters a reading holds, each counted each time it is reached (what is shared counts as often as it is met; a slice's spare places count too). A statement '..UptoSaid' is the law's where the arguments, and the package variables that the reading takes, are together of bulk at most 1048576: NARROWER than '..Said'. Prove '..Said' where nothing that the law and all that it calls make is longer than what came in: it says more and counts as full. Else prove '..UptoSaid'. A law counts once. -/
mutual
def uptoBulk {H : Type} : DataW H → Nat
  | .lit (.string bytes) => bytes.length + 1
  | .lit _ => 1
  | .nil => 1
  | .ptr d => uptoBulk d + 1
  | .slice elems spare => uptoBulkAll elems + uptoBulkAll spare + 1
  | .agg parts => uptoBulkAll parts + 1
  | .iface _ d => uptoBulk d + 1
  | .map entries => uptoBulkEntries entries + 1
  | .held _ => 1
def uptoBulkAll {H : Type} : List (DataW H) → Nat
  | [] => 0
  | d :: r => uptoBulk d + uptoBulkAll r
def uptoBulkEntries {H : Type} : List (Lit × DataW H) → Nat
  | [] => 0
  | x :: r => uptoBulkEntry x + uptoBulkEntries r
def uptoBulkEntry {H : Type} : Lit × DataW H → Nat
  | (.string bytes, d) => bytes.length + uptoBulk d + 1
  | (_, d) => uptoBulk d + 1
 end
def uptoSmall : (H : Type) → List (DataW H) → Bool := fun _ ds => decide (uptoBulkAll ds ≤ 1048576)
def OpenSpec.upto (s : _root_.Go.ChangeSpec) : _root_.Go.OpenSpec := { _root_.Go.OpenSpec.ofChange s with cond := some uptoSmall }

/-- 'klippelaw21.SuccessionRanks', WHERE WHAT IT READS IS OF BULK AT MOST 1048576: true; the input reads as it did. -/
def successionRanksUptoRow : OpenClaim := { program := "ytddjibfmnkcalaa", sum := "b0923b9e919f00be74835e33c1b03e80fd5ec53d055385aec13c6a0b6cd36deb", func := "klippe/klippelaw21.SuccessionRanks", spec := "successionRanks", unfollowed := true, recurses := true, apart := false, narrowed := true }
def SuccessionRanksUptoSaid : Prop := successionRanksUptoRow.holds Try.pinned (OpenSpec.upto successionRanksSpec)

/-- 'klippelaw21.SuccessionTurns', WHERE WHAT IT READS IS OF BULK AT MOST 1048576: true; the input reads as it did. -/
def successionTurnsUptoRow : OpenClaim := { program := "ytddjibfmnkcalaa", sum := "b0923b9e919f00be74835e33c1b03e80fd5ec53d055385aec13c6a0b6cd36deb", func := "klippe/klippelaw21.SuccessionTurns", spec := "successionTurns", unfollowed := true, recurses := true, apart := false, narrowed := true }
def SuccessionTurnsUptoSaid : Prop := successionTurnsUptoRow.holds Try.pinned (OpenSpec.upto successionTurnsSpec)

/-- 'klippelaw21.SuccessionCycles', WHERE WHAT IT READS IS OF BULK AT MOST 1048576: true; the input reads as it did. -/
def successionCyclesUptoRow : OpenClaim := { program := "ytddjibfmnkcalaa", sum := "b0923b9e919f00be74835e33c1b03e80fd5ec53d055385aec13c6a0b6cd36deb", func := "klippe/klippelaw21.SuccessionCycles", spec := "successionCycles", unfollowed := true, recurses := true, apart := false, narrowed := true }
def SuccessionCyclesUptoSaid : Prop := successionCyclesUptoRow.holds Try.pinned (OpenSpec.upto successionCyclesSpec)

/-- 'klippelaw21.SuccessionOlder', WHERE WHAT IT READS IS OF BULK AT MOST 1048576: true; the input reads as it did. -/
def successionOlderUptoRow : OpenClaim := { program := "ytddjibfmnkcalaa", sum := "b0923b9e919f00be74835e33c1b03e80fd5ec53d055385aec13c6a0b6cd36deb", func := "klippe/klippelaw21.SuccessionOlder", spec := "successionOlder", unfollowed := true, recurses := true, apart := false, narrowed := true }
def SuccessionOlderUptoSaid : Prop := successionOlderUptoRow.holds Try.pinned (OpenSpec.upto successionOlderSpec)

/-- 'klippelaw21.SuccessionPairs', WHERE WHAT IT READS IS OF BULK AT MOST 1048576: true; the input reads as it did. -/
def successionPairsUptoRow : OpenClaim := { program := "ytddjibfmnkcalaa", sum := "b0923b9e919f00be74835e33c1b03e80fd5ec53d055385aec13c6a0b6cd36deb", func := "klippe/klippelaw21.SuccessionPairs", spec := "successionPairs", unfollowed := true, recurses := true, apart := false, narrowed := true }
def SuccessionPairsUptoSaid : Prop := successionPairsUptoRow.holds Try.pinned (OpenSpec.upto successionPairsSpec)

/-- 'klippelaw21.SuccessionKeeps', WHERE WHAT IT READS IS OF BULK AT MOST 1048576: true; the input reads as it did. -/
def successionKeepsUptoRow : OpenClaim := { program := "ytddjibfmnkcalaa", sum := "b0923b9e919f00be74835e33c1b03e80fd5ec53d055385aec13c6a0b6cd36deb", func := "klippe/klippelaw21.SuccessionKeeps", spec := "successionKeeps", unfollowed := true, recurses := true, apart := false, narrowed := true }
def SuccessionKeepsUptoSaid : Prop := successionKeepsUptoRow.holds Try.pinned (OpenSpec.upto successionKeepsSpec)

end Rows
end Go.Proofs.Ytddjibfmnkcalaa
