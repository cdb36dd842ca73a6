/-
  No cell of these rows narrows 'for every input' (looked for: loops, veiled, ifaces, maps, wideKeys, modest, calm, conditions, laid).
  DERIVED. THE GIVEN ROWS OF THIS SEAT. 11 by the template 'for every input the law returns true; each argument reads behind the call as it read before'; 0 by the template 'total and deterministic' (their statements: YtbofipdmoocflaaTotals.lean).
  GIVEN WITH THE SEED: the statements are not yours to turn. If you find one false, say at which input.
  Laid BY PROGRAM, IN A SANDBOX (cutbox-rows.mjs): the forced cells as the released guide's own fill.sh prints them over the translation 4db2e94f97bd5dc1… (all of the seat's roots in one cut). By AI agents, Wed Nov 11 2026. No macro, syntax, notation, axiom, sorry.
-/
import Derived.Test.YtbofipdmoocflaaChecked
import GoSem.Claim
import GoSem.ClaimJoined
import GoSem.ClaimMapViews
import Derived.JoinedTies
import Derived.KernelRfl
namespace Go.Proofs.Ytbofipdmoocflaa
/- THE CELL 'sum', in the pinned program and in every row, IS THE sha256 OF THE DUMP (.gsa) THAT YtbofipdmoocflaaProg.lean LOADS. Nothing in Lean hashes anything: it is a label: what it is worth is what the hold of that sum in a sandbox is worth. -/
noncomputable def Try.pinned : Pinned := { name := "ytbofipdmoocflaa", sum := "4db2e94f97bd5dc1d8f9f6bc638c23b1ddc4c0ccff7c0560f895415d30086934", checked := Try.checked }
namespace Rows
def none {H : Type} : Left H := { results := [], args := [] }

/-- 'codewrightlaw23.EnumerateWeights': WHATEVER THE INPUT: true; the input reads as it did. -/
def enumerateWeightsSpec : ChangeSpec := { name := "enumerateWeights", fn := fun _ => fun
  | [d] => { results := [.lit (.bool true)], args := [d] }
  | _ => none }
def enumerateWeightsRow : OpenClaim := { program := "ytbofipdmoocflaa", sum := "4db2e94f97bd5dc1d8f9f6bc638c23b1ddc4c0ccff7c0560f895415d30086934", func := "codewright/codewrightlaw23.EnumerateWeights", spec := "enumerateWeights", unfollowed := true, recurses := true, apart := false }
def EnumerateWeightsSaid : Prop := enumerateWeightsRow.holds Try.pinned (OpenSpec.ofChange enumerateWeightsSpec)

/-- ITS FALSE NEIGHBOUR: 'it returns false'. Refute it at one input. -/
def enumerateWeightsWrong : ChangeSpec := { name := "enumerateWeights", fn := fun _ => fun
  | [d] => { results := [.lit (.bool false)], args := [d] }
  | _ => none }
def EnumerateWeightsWrongFalsely : Prop := enumerateWeightsRow.holds Try.pinned (OpenSpec.ofChange enumerateWeightsWrong)

/-- 'codewrightlaw23.EnumerateOfWeight': WHATEVER THE INPUT: true; the input reads as it did. -/
def enumerateOfWeightSpec : ChangeSpec := { name := "enumerateOfWeight", fn := fun _ => fun
  | [d1, d2] => { results := [.lit (.bool true)], args := [d1, d2] }
  | _ => none }
def enumerateOfWeightRow : OpenClaim := { program := "ytbofipdmoocflaa", sum := "4db2e94f97bd5dc1d8f9f6bc638c23b1ddc4c0ccff7c0560f895415d30086934", func := "codewright/codewrightlaw23.EnumerateOfWeight", spec := "enumerateOfWeight", unfollowed := true, recurses := true, apart := false }
def EnumerateOfWeightSaid : Prop := enumerateOfWeightRow.holds Try.pinned (OpenSpec.ofChange enumerateOfWeightSpec)

/-- ITS FALSE NEIGHBOUR: 'it returns false'. Refute it at one input. -/
def enumerateOfWeightWrong : ChangeSpec := { name := "enumerateOfWeight", fn := fun _ => fun
  | [d1, d2] => { results := [.lit (.bool false)], args := [d1, d2] }
  | _ => none }
def EnumerateOfWeightWrongFalsely : Prop := enumerateOfWeightRow.holds Try.pinned (OpenSpec.ofChange enumerateOfWeightWrong)

/-- 'codewrightlaw23.EnumerateLightest': WHATEVER THE INPUT: true; the input reads as it did. -/
def enumerateLightestSpec : ChangeSpec := { name := "enumerateLightest", fn := fun _ => fun
  | [d1, d2] => { results := [.lit (.bool true)], args := [d1, d2] }
  | _ => none }
def enumerateLightestRow : OpenClaim := { program := "ytbofipdmoocflaa", sum := "4db2e94f97bd5dc1d8f9f6bc638c23b1ddc4c0ccff7c0560f895415d30086934", func := "codewright/codewrightlaw23.EnumerateLightest", spec := "enumerateLightest", unfollowed := true, recurses := true, apart := false }
def EnumerateLightestSaid : Prop := enumerateLightestRow.holds Try.pinned (OpenSpec.ofChange enumerateLightestSpec)

/-- ITS FALSE NEIGHBOUR: 'it returns false'. Refute it at one input. -/
def enumerateLightestWrong : ChangeSpec := { name := "enumerateLightest", fn := fun _ => fun
  | [d1, d2] => { results := [.lit (.bool false)], args := [d1, d2] }
  | _ => none }
def EnumerateLightestWrongFalsely : Prop := enumerateLightestRow.holds Try.pinned (OpenSpec.ofChange enumerateLightestWrong)

/-- 'codewrightlaw23.EnumerateNearest': WHATEVER THE INPUT: true; the input reads as it did. -/
def enumerateNearestSpec : ChangeSpec := { name := "enumerateNearest", fn := fun _ => fun
  | [d1, d2, d3] => { results := [.lit (.bool true)], args := [d1, d2, d3] }
  | _ => none }
def enumerateNearestRow : OpenClaim := { program := "ytbofipdmoocflaa", sum := "4db2e94f97bd5dc1d8f9f6bc638c23b1ddc4c0ccff7c0560f895415d30086934", func := "codewright/codewrightlaw23.EnumerateNearest", spec := "enumerateNearest", unfollowed := true, recurses := true, apart := false }
def EnumerateNearestSaid : Prop := enumerateNearestRow.holds Try.pinned (OpenSpec.ofChange enumerateNearestSpec)

/-- ITS FALSE NEIGHBOUR: 'it returns false'. Refute it at one input. -/
def enumerateNearestWrong : ChangeSpec := { name := "enumerateNearest", fn := fun _ => fun
  | [d1, d2, d3] => { results := [.lit (.bool false)], args := [d1, d2, d3] }
  | _ => none }
def EnumerateNearestWrongFalsely : Prop := enumerateNearestRow.holds Try.pinned (OpenSpec.ofChange enumerateNearestWrong)

/-- 'codewrightlaw23.EnumerateDistances': WHATEVER THE INPUT: true; the input reads as it did. -/
def enumerateDistancesSpec : ChangeSpec := { name := "enumerateDistances", fn := fun _ => fun
  | [d1, d2, d3] => { results := [.lit (.bool true)], args := [d1, d2, d3] }
  | _ => none }
def enumerateDistancesRow : OpenClaim := { program := "ytbofipdmoocflaa", sum := "4db2e94f97bd5dc1d8f9f6bc638c23b1ddc4c0ccff7c0560f895415d30086934", func := "codewright/codewrightlaw23.EnumerateDistances", spec := "enumerateDistances", unfollowed := true, recurses := true, apart := false }
def EnumerateDistancesSaid : Prop := enumerateDistancesRow.holds Try.pinned (OpenSpec.ofChange enumerateDistancesSpec)

/-- ITS FALSE NEIGHBOUR: 'it returns false'. Refute it at one input. -/
def enumerateDistancesWrong : ChangeSpec := { name := "enumerateDistances", fn := fun _ => fun
  | [d1, d2, d3] => { results := [.lit (.bool false)], args := [d1, d2, d3] }
  | _ => none }
def EnumerateDistancesWrongFalsely : Prop := enumerateDistancesRow.holds Try.pinned (OpenSpec.ofChange enumerateDistancesWrong)

/-- 'codewrightlaw23.EnumerateLinear': WHATEVER THE INPUT: true; the input reads as it did. -/
def enumerateLinearSpec : ChangeSpec := { name := "enumerateLinear", fn := fun _ => fun
  | [d] => { results := [.lit (.bool true)], args := [d] }
  | _ => none }
def enumerateLinearRow : OpenClaim := { program := "ytbofipdmoocflaa", sum := "4db2e94f97bd5dc1d8f9f6bc638c23b1ddc4c0ccff7c0560f895415d30086934", func := "codewright/codewrightlaw23.EnumerateLinear", spec := "enumerateLinear", unfollowed := true, recurses := true, apart := false }
def EnumerateLinearSaid : Prop := enumerateLinearRow.holds Try.pinned (OpenSpec.ofChange enumerateLinearSpec)

/-- ITS FALSE NEIGHBOUR: 'it returns false'. Refute it at one input. -/
def enumerateLinearWrong : ChangeSpec := { name := "enumerateLinear", fn := fun _ => fun
  | [d] => { results := [.lit (.bool false)], args := [d] }
  | _ => none }
def EnumerateLinearWrongFalsely : Prop := enumerateLinearRow.holds Try.pinned (OpenSpec.ofChange enumerateLinearWrong)

/-- 'codewrightlaw23.EnumerateCosets': WHATEVER THE INPUT: true; the input reads as it did. -/
def enumerateCosetsSpec : ChangeSpec := { name := "enumerateCosets", fn := fun _ => fun
  | [d1, d2, d3] => { results := [.lit (.bool true)], args := [d1, d2, d3] }
  | _ => none }
def enumerateCosetsRow : OpenClaim := { program := "ytbofipdmoocflaa", sum := "4db2e94f97bd5dc1d8f9f6bc638c23b1ddc4c0ccff7c0560f895415d30086934", func := "codewright/codewrightlaw23.EnumerateCosets", spec := "enumerateCosets", unfollowed := true, recurses := true, apart := false }
def EnumerateCosetsSaid : Prop := enumerateCosetsRow.holds Try.pinned (OpenSpec.ofChange enumerateCosetsSpec)

/-- ITS FALSE NEIGHBOUR: 'it returns false'. Refute it at one input. -/
def enumerateCosetsWrong : ChangeSpec := { name := "enumerateCosets", fn := fun _ => fun
  | [d1, d2, d3] => { results := [.lit (.bool false)], args := [d1, d2, d3] }
  | _ => none }
def EnumerateCosetsWrongFalsely : Prop := enumerateCosetsRow.holds Try.pinned (OpenSpec.ofChange enumerateCosetsWrong)

/-- 'codewrightlaw23.EnumerateWithin': WHATEVER THE INPUT: true; the input reads as it did. -/
def enumerateWithinSpec : ChangeSpec := { name := "enumerateWithin", fn := fun _ => fun
  | [d1, d2, d3] => { results := [.lit (.bool true)], args := [d1, d2, d3] }
  | _ => none }
def enumerateWithinRow : OpenClaim := { program := "ytbofipdmoocflaa", sum := "4db2e94f97bd5dc1d8f9f6bc638c23b1ddc4c0ccff7c0560f895415d30086934", func := "codewright/codewrightlaw23.EnumerateWithin", spec := "enumerateWithin", unfollowed := true, recurses := true, apart := false }
def EnumerateWithinSaid : Prop := enumerateWithinRow.holds Try.pinned (OpenSpec.ofChange enumerateWithinSpec)

/-- ITS FALSE NEIGHBOUR: 'it returns false'. Refute it at one input. -/
def enumerateWithinWrong : ChangeSpec := { name := "enumerateWithin", fn := fun _ => fun
  | [d1, d2, d3] => { results := [.lit (.bool false)], args := [d1, d2, d3] }
  | _ => none }
def EnumerateWithinWrongFalsely : Prop := enumerateWithinRow.holds Try.pinned (OpenSpec.ofChange enumerateWithinWrong)

/-- 'codewrightlaw23.EnumeratePartition': WHATEVER THE INPUT: true; the input reads as it did. -/
def enumeratePartitionSpec : ChangeSpec := { name := "enumeratePartition", fn := fun _ => fun
  | [d] => { results := [.lit (.bool true)], args := [d] }
  | _ => none }
def enumeratePartitionRow : OpenClaim := { program := "ytbofipdmoocflaa", sum := "4db2e94f97bd5dc1d8f9f6bc638c23b1ddc4c0ccff7c0560f895415d30086934", func := "codewright/codewrightlaw23.EnumeratePartition", spec := "enumeratePartition", unfollowed := true, recurses := true, apart := false }
def EnumeratePartitionSaid : Prop := enumeratePartitionRow.holds Try.pinned (OpenSpec.ofChange enumeratePartitionSpec)

/-- ITS FALSE NEIGHBOUR: 'it returns false'. Refute it at one input. -/
def enumeratePartitionWrong : ChangeSpec := { name := "enumeratePartition", fn := fun _ => fun
  | [d] => { results := [.lit (.bool false)], args := [d] }
  | _ => none }
def EnumeratePartitionWrongFalsely : Prop := enumeratePartitionRow.holds Try.pinned (OpenSpec.ofChange enumeratePartitionWrong)

/-- 'codewrightlaw23.EnumerateChecks': WHATEVER THE INPUT: true; the input reads as it did. -/
def enumerateChecksSpec : ChangeSpec := { name := "enumerateChecks", fn := fun _ => fun
  | [d1, d2] => { results := [.lit (.bool true)], args := [d1, d2] }
  | _ => none }
def enumerateChecksRow : OpenClaim := { program := "ytbofipdmoocflaa", sum := "4db2e94f97bd5dc1d8f9f6bc638c23b1ddc4c0ccff7c0560f895415d30086934", func := "codewright/codewrightlaw23.EnumerateChecks", spec := "enumerateChecks", unfollowed := true, recurses := true, apart := false }
def EnumerateChecksSaid : Prop := enumerateChecksRow.holds Try.pinned (OpenSpec.ofChange enumerateChecksSpec)

/-- ITS FALSE NEIGHBOUR: 'it returns false'. Refute it at one input. -/
def enumerateChecksWrong : ChangeSpec := { name := "enumerateChecks", fn := fun _ => fun
  | [d1, d2] => { results := [.lit (.bool false)], args := [d1, d2] }
  | _ => none }
def EnumerateChecksWrongFalsely : Prop := enumerateChecksRow.holds Try.pinned (OpenSpec.ofChange enumerateChecksWrong)

/-- 'codewrightlaw23.EnumerateCertifies': WHATEVER THE INPUT: true; the input reads as it did. -/
def enumerateCertifiesSpec : ChangeSpec := { name := "enumerateCertifies", fn := fun _ => fun
  | [d] => { results := [.lit (.bool true)], args := [d] }
  | _ => none }
def enumerateCertifiesRow : OpenClaim := { program := "ytbofipdmoocflaa", sum := "4db2e94f97bd5dc1d8f9f6bc638c23b1ddc4c0ccff7c0560f895415d30086934", func := "codewright/codewrightlaw23.EnumerateCertifies", spec := "enumerateCertifies", unfollowed := true, recurses := true, apart := false }
def EnumerateCertifiesSaid : Prop := enumerateCertifiesRow.holds Try.pinned (OpenSpec.ofChange enumerateCertifiesSpec)

/-- ITS FALSE NEIGHBOUR: 'it returns false'. Refute it at one input. -/
def enumerateCertifiesWrong : ChangeSpec := { name := "enumerateCertifies", fn := fun _ => fun
  | [d] => { results := [.lit (.bool false)], args := [d] }
  | _ => none }
def EnumerateCertifiesWrongFalsely : Prop := enumerateCertifiesRow.holds Try.pinned (OpenSpec.ofChange enumerateCertifiesWrong)

/- THE SECOND FORM. 'bulk': how many values and letters a reading holds, each counted each time it is reached (what is shared counts as often as it is met; a slice's spare places count too). A statement '..UptoSaid' is the law's where the arguments, and the package variables that the reading takes, are together of bulk at most 1048576: NARROWER than '..Said'. Prove '..Said' where nothing that the law and all that it calls make is longer than what came in: it says more and counts as full. Else prove '..UptoSaid'. A law counts once. -/
mutual
def uptoBulk {H : Type} : DataW H → Nat
  | .lit (.string bytes) => bytes.length + 1
  | .lit _ => 1
  | .nil => 1
  | .ptr d => uptoBulk d + 1
  | .slice elems spare => uptoBulkAll elems + uptoBulkAll spare + 1
  | .agg parts => uptoBulkAll parts + 1
  | .iface _ d => uptoBulk d + 1
  | .map entries => uptoBulkEntries entries + 1
  | .held _ => 1
def uptoBulkAll {H : Type} : List (DataW H) → Nat
  | [] => 0
  | d :: r => uptoBulk d + uptoBulkAll r
def uptoBulkEntries {H : Type} : List (Lit × DataW H) → Nat
  | [] => 0
  | x :: r => uptoBulkEntry x + uptoBulkEntries r
def uptoBulkEntry {H : Type} : Lit × DataW H → Nat
  | (.string bytes, d) => bytes.length + uptoBulk d + 1
  | (_, d) => uptoBulk d + 1
 end
def uptoSmall : (H : Type) → List (DataW H) → Bool := fun _ ds => decide (uptoBulkAll ds ≤ 1048576)
def OpenSpec.upto (s : _root_.Go.ChangeSpec) : _root_.Go.OpenSpec := { _root_.Go.OpenSpec.ofChange s with cond := some uptoSmall }

/-- 'codewrightlaw23.EnumerateWeights', WHERE WHAT IT READS IS OF BULK AT MOST 1048576: true; the input reads as it did. -/
def enumerateWeightsUptoRow : OpenClaim := { program := "ytbofipdmoocflaa", sum := "4db2e94f97bd5dc1d8f9f6bc638c23b1ddc4c0ccff7c0560f895415d30086934", func := "codewright/codewrightlaw23.EnumerateWeights", spec := "enumerateWeights", unfollowed := true, recurses := true, apart := false, narrowed := true }
def EnumerateWeightsUptoSaid : Prop := enumerateWeightsUptoRow.holds Try.pinned (OpenSpec.upto enumerateWeightsSpec)

/-- 'codewrightlaw23.EnumerateOfWeight', WHERE WHAT IT READS IS OF BULK AT MOST 1048576: true; the input reads as it did. -/
def enumerateOfWeightUptoRow : OpenClaim := { program := "ytbofipdmoocflaa", sum := "4db2e94f97bd5dc1d8f9f6bc638c23b1ddc4c0ccff7c0560f895415d30086934", func := "codewright/codewrightlaw23.EnumerateOfWeight", spec := "enumerateOfWeight", unfollowed := true, recurses := true, apart := false, narrowed := true }
def EnumerateOfWeightUptoSaid : Prop := enumerateOfWeightUptoRow.holds Try.pinned (OpenSpec.upto enumerateOfWeightSpec)

/-- 'codewrightlaw23.EnumerateLightest', WHERE WHAT IT READS IS OF BULK AT MOST 1048576: true; the input reads as it did. -/
def enumerateLightestUptoRow : OpenClaim := { program := "ytbofipdmoocflaa", sum := "4db2e94f97bd5dc1d8f9f6bc638c23b1ddc4c0ccff7c0560f895415d30086934", func := "codewright/codewrightlaw23.EnumerateLightest", spec := "enumerateLightest", unfollowed := true, recurses := true, apart := false, narrowed := true }
def EnumerateLightestUptoSaid : Prop := enumerateLightestUptoRow.holds Try.pinned (OpenSpec.upto enumerateLightestSpec)

/-- 'codewrightlaw23.EnumerateNearest', WHERE WHAT IT READS IS OF BULK AT MOST 1048576: true; the input reads as it did. -/
def enumerateNearestUptoRow : OpenClaim := { program := "ytbofipdmoocflaa", sum := "4db2e94f97bd5dc1d8f9f6bc638c23b1ddc4c0ccff7c0560f895415d30086934", func := "codewright/codewrightlaw23.EnumerateNearest", spec := "enumerateNearest", unfollowed := true, recurses := true, apart := false, narrowed := true }
def EnumerateNearestUptoSaid : Prop := enumerateNearestUptoRow.holds Try.pinned (OpenSpec.upto enumerateNearestSpec)

/-- 'codewrightlaw23.EnumerateDistances', WHERE WHAT IT READS IS OF BULK AT MOST 1048576: true; the input reads as it did. -/
def enumerateDistancesUptoRow : OpenClaim := { program := "ytbofipdmoocflaa", sum := "4db2e94f97bd5dc1d8f9f6bc638c23b1ddc4c0ccff7c0560f895415d30086934", func := "codewright/codewrightlaw23.EnumerateDistances", spec := "enumerateDistances", unfollowed := true, recurses := true, apart := false, narrowed := true }
def EnumerateDistancesUptoSaid : Prop := enumerateDistancesUptoRow.holds Try.pinned (OpenSpec.upto enumerateDistancesSpec)

/-- 'codewrightlaw23.EnumerateLinear', WHERE WHAT IT READS IS OF BULK AT MOST 1048576: true; the input reads as it did. -/
def enumerateLinearUptoRow : OpenClaim := { program := "ytbofipdmoocflaa", sum := "4db2e94f97bd5dc1d8f9f6bc638c23b1ddc4c0ccff7c0560f895415d30086934", func := "codewright/codewrightlaw23.EnumerateLinear", spec := "enumerateLinear", unfollowed := true, recurses := true, apart := false, narrowed := true }
def EnumerateLinearUptoSaid : Prop := enumerateLinearUptoRow.holds Try.pinned (OpenSpec.upto enumerateLinearSpec)

/-- 'codewrightlaw23.EnumerateCosets', WHERE WHAT IT READS IS OF BULK AT MOST 1048576: true; the input reads as it did. -/
def enumerateCosetsUptoRow : OpenClaim := { program := "ytbofipdmoocflaa", sum := "4db2e94f97bd5dc1d8f9f6bc638c23b1ddc4c0ccff7c0560f895415d30086934", func := "codewright/codewrightlaw23.EnumerateCosets", spec := "enumerateCosets", unfollowed := true, recurses := true, apart := false, narrowed := true }
def EnumerateCosetsUptoSaid : Prop := enumerateCosetsUptoRow.holds Try.pinned (OpenSpec.upto enumerateCosetsSpec)

/-- 'codewrightlaw23.EnumerateWithin', WHERE WHAT IT READS IS OF BULK AT MOST 1048576: true; the input reads as it did. -/
def enumerateWithinUptoRow : OpenClaim := { program := "ytbofipdmoocflaa", sum := "4db2e94f97bd5dc1d8f9f6bc638c23b1ddc4c0ccff7c0560f895415d30086934", func := "codewright/codewrightlaw23.EnumerateWithin", spec := "enumerateWithin", unfollowed := true, recurses := true, apart := false, narrowed := true }
def EnumerateWithinUptoSaid : Prop := enumerateWithinUptoRow.holds Try.pinned (OpenSpec.upto enumerateWithinSpec)

/-- 'codewrightlaw23.EnumeratePartition', WHERE WHAT IT READS IS OF BULK AT MOST 1048576: true; the input reads as it did. -/
def enumeratePartitionUptoRow : OpenClaim := { program := "ytbofipdmoocflaa", sum := "4db2e94f97bd5dc1d8f9f6bc638c23b1ddc4c0ccff7c0560f895415d30086934", func := "codewright/codewrightlaw23.EnumeratePartition", spec := "enumeratePartition", unfollowed := true, recurses := true, apart := false, narrowed := true }
def EnumeratePartitionUptoSaid : Prop := enumeratePartitionUptoRow.holds Try.pinned (OpenSpec.upto enumeratePartitionSpec)

/-- 'codewrightlaw23.EnumerateChecks', WHERE WHAT IT READS IS OF BULK AT MOST 1048576: true; the input reads as it did. -/
def enumerateChecksUptoRow : OpenClaim := { program := "ytbofipdmoocflaa", sum := "4db2e94f97bd5dc1d8f9f6bc638c23b1ddc4c0ccff7c0560f895415d30086934", func := "codewright/codewrightlaw23.EnumerateChecks", spec := "enumerateChecks", unfollowed := true, recurses := true, apart := false, narrowed := true }
def EnumerateChecksUptoSaid : Prop := enumerateChecksUptoRow.holds Try.pinned (OpenSpec.upto enumerateChecksSpec)

/-- 'codewrightlaw23.EnumerateCertifies', WHERE WHAT IT READS IS OF BULK AT MOST 1048576: true; the input reads as it did. -/
def enumerateCertifiesUptoRow : OpenClaim := { program := "ytbofipdmoocflaa", sum := "4db2e94f97bd5dc1d8f9f6bc638c23b1ddc4c0ccff7c0560f895415d30086934", func := "codewright/codewrightlaw23.EnumerateCertifies", spec := "enumerateCertifies", unfollowed := true, recurses := true, apart := false, narrowed := true }
def EnumerateCertifiesUptoSaid : Prop := enumerateCertifiesUptoRow.holds Try.pinned (OpenSpec.upto enumerateCertifiesSpec)

end Rows
end Go.Proofs.Ytbofipdmoocflaa
