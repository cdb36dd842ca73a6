/-
  No cell of these rows narrows 'for every input' (looked for: loops, veiled, ifaces, maps, wideKeys, modest, calm, conditions, laid).
  DERIVED. THE GIVEN ROWS OF THIS SEAT. 13 by the template 'for every input the law returns true; each argument reads behind the call as it read before'; 0 by the template 'total and deterministic' (their statements: YtaipghchkamajaaTotals.lean).
  GIVEN WITH THE SEED: the statements are not yours to turn. If you find one false, say at which input.
  Laid BY PROGRAM, IN A SANDBOX (cutbox-rows.mjs): the forced cells as the released guide's own fill.sh prints them over the translation ba5c9990e0dc6d04… (all of the seat's roots in one cut). By AI agents, Wed Nov 11 2026. No macro, syntax, notation, axiom, sorry.
-/
import Derived.Test.YtaipghchkamajaaChecked
import GoSem.Claim
import GoSem.ClaimJoined
import GoSem.ClaimMapViews
import Derived.JoinedTies
import Derived.KernelRfl
namespace Go.Proofs.Ytaipghchkamajaa
/- THE CELL 'sum', in the pinned program and in every row, IS THE sha256 OF THE DUMP (.gsa) THAT YtaipghchkamajaaProg.lean LOADS. Nothing in Lean hashes anything: it is a label: what it is worth is what the hold of that sum in a sandbox is worth. -/
noncomputable def Try.pinned : Pinned := { name := "ytaipghchkamajaa", sum := "ba5c9990e0dc6d0411dadf0f6c14d96e3748b49fc1ed5f6bcda6b0a5a4b4c6b1", checked := Try.checked }
namespace Rows
def none {H : Type} : Left H := { results := [], args := [] }

/-- 'codewrightlaw52.RegenerateCuts': WHATEVER THE INPUT: true; the input reads as it did. -/
def regenerateCutsSpec : ChangeSpec := { name := "regenerateCuts", fn := fun _ => fun
  | [d1, d2, d3, d4] => { results := [.lit (.bool true)], args := [d1, d2, d3, d4] }
  | _ => none }
def regenerateCutsRow : OpenClaim := { program := "ytaipghchkamajaa", sum := "ba5c9990e0dc6d0411dadf0f6c14d96e3748b49fc1ed5f6bcda6b0a5a4b4c6b1", func := "codewright/codewrightlaw52.RegenerateCuts", spec := "regenerateCuts", apart := false }
def RegenerateCutsSaid : Prop := regenerateCutsRow.holds Try.pinned (OpenSpec.ofChange regenerateCutsSpec)

/-- ITS FALSE NEIGHBOUR: 'it returns false'. Refute it at one input. -/
def regenerateCutsWrong : ChangeSpec := { name := "regenerateCuts", fn := fun _ => fun
  | [d1, d2, d3, d4] => { results := [.lit (.bool false)], args := [d1, d2, d3, d4] }
  | _ => none }
def RegenerateCutsWrongFalsely : Prop := regenerateCutsRow.holds Try.pinned (OpenSpec.ofChange regenerateCutsWrong)

/-- 'codewrightlaw52.RegenerateGraphs': WHATEVER THE INPUT: true; the input reads as it did. -/
def regenerateGraphsSpec : ChangeSpec := { name := "regenerateGraphs", fn := fun _ => fun
  | [d1, d2, d3, d4, d5] => { results := [.lit (.bool true)], args := [d1, d2, d3, d4, d5] }
  | _ => none }
def regenerateGraphsRow : OpenClaim := { program := "ytaipghchkamajaa", sum := "ba5c9990e0dc6d0411dadf0f6c14d96e3748b49fc1ed5f6bcda6b0a5a4b4c6b1", func := "codewright/codewrightlaw52.RegenerateGraphs", spec := "regenerateGraphs", apart := false }
def RegenerateGraphsSaid : Prop := regenerateGraphsRow.holds Try.pinned (OpenSpec.ofChange regenerateGraphsSpec)

/-- ITS FALSE NEIGHBOUR: 'it returns false'. Refute it at one input. -/
def regenerateGraphsWrong : ChangeSpec := { name := "regenerateGraphs", fn := fun _ => fun
  | [d1, d2, d3, d4, d5] => { results := [.lit (.bool false)], args := [d1, d2, d3, d4, d5] }
  | _ => none }
def RegenerateGraphsWrongFalsely : Prop := regenerateGraphsRow.holds Try.pinned (OpenSpec.ofChange regenerateGraphsWrong)

/-- 'codewrightlaw52.RegenerateFlows': WHATEVER THE INPUT: true; the input reads as it did. -/
def regenerateFlowsSpec : ChangeSpec := { name := "regenerateFlows", fn := fun _ => fun
  | [d1, d2, d3, d4, d5, d6, d7] => { results := [.lit (.bool true)], args := [d1, d2, d3, d4, d5, d6, d7] }
  | _ => none }
def regenerateFlowsRow : OpenClaim := { program := "ytaipghchkamajaa", sum := "ba5c9990e0dc6d0411dadf0f6c14d96e3748b49fc1ed5f6bcda6b0a5a4b4c6b1", func := "codewright/codewrightlaw52.RegenerateFlows", spec := "regenerateFlows", apart := false }
def RegenerateFlowsSaid : Prop := regenerateFlowsRow.holds Try.pinned (OpenSpec.ofChange regenerateFlowsSpec)

/-- ITS FALSE NEIGHBOUR: 'it returns false'. Refute it at one input. -/
def regenerateFlowsWrong : ChangeSpec := { name := "regenerateFlows", fn := fun _ => fun
  | [d1, d2, d3, d4, d5, d6, d7] => { results := [.lit (.bool false)], args := [d1, d2, d3, d4, d5, d6, d7] }
  | _ => none }
def RegenerateFlowsWrongFalsely : Prop := regenerateFlowsRow.holds Try.pinned (OpenSpec.ofChange regenerateFlowsWrong)

/-- 'codewrightlaw52.RegenerateTight': WHATEVER THE INPUT: true; the input reads as it did. -/
def regenerateTightSpec : ChangeSpec := { name := "regenerateTight", fn := fun _ => fun
  | [d1, d2, d3, d4] => { results := [.lit (.bool true)], args := [d1, d2, d3, d4] }
  | _ => none }
def regenerateTightRow : OpenClaim := { program := "ytaipghchkamajaa", sum := "ba5c9990e0dc6d0411dadf0f6c14d96e3748b49fc1ed5f6bcda6b0a5a4b4c6b1", func := "codewright/codewrightlaw52.RegenerateTight", spec := "regenerateTight", apart := false }
def RegenerateTightSaid : Prop := regenerateTightRow.holds Try.pinned (OpenSpec.ofChange regenerateTightSpec)

/-- ITS FALSE NEIGHBOUR: 'it returns false'. Refute it at one input. -/
def regenerateTightWrong : ChangeSpec := { name := "regenerateTight", fn := fun _ => fun
  | [d1, d2, d3, d4] => { results := [.lit (.bool false)], args := [d1, d2, d3, d4] }
  | _ => none }
def RegenerateTightWrongFalsely : Prop := regenerateTightRow.holds Try.pinned (OpenSpec.ofChange regenerateTightWrong)

/-- 'codewrightlaw52.RegenerateChecks': WHATEVER THE INPUT: true; the input reads as it did. -/
def regenerateChecksSpec : ChangeSpec := { name := "regenerateChecks", fn := fun _ => fun
  | [d] => { results := [.lit (.bool true)], args := [d] }
  | _ => none }
def regenerateChecksRow : OpenClaim := { program := "ytaipghchkamajaa", sum := "ba5c9990e0dc6d0411dadf0f6c14d96e3748b49fc1ed5f6bcda6b0a5a4b4c6b1", func := "codewright/codewrightlaw52.RegenerateChecks", spec := "regenerateChecks", apart := false }
def RegenerateChecksSaid : Prop := regenerateChecksRow.holds Try.pinned (OpenSpec.ofChange regenerateChecksSpec)

/-- ITS FALSE NEIGHBOUR: 'it returns false'. Refute it at one input. -/
def regenerateChecksWrong : ChangeSpec := { name := "regenerateChecks", fn := fun _ => fun
  | [d] => { results := [.lit (.bool false)], args := [d] }
  | _ => none }
def RegenerateChecksWrongFalsely : Prop := regenerateChecksRow.holds Try.pinned (OpenSpec.ofChange regenerateChecksWrong)

/-- 'codewrightlaw52.RegenerateOptimal': WHATEVER THE INPUT: true; the input reads as it did. -/
def regenerateOptimalSpec : ChangeSpec := { name := "regenerateOptimal", fn := fun _ => fun
  | [d1, d2, d3] => { results := [.lit (.bool true)], args := [d1, d2, d3] }
  | _ => none }
def regenerateOptimalRow : OpenClaim := { program := "ytaipghchkamajaa", sum := "ba5c9990e0dc6d0411dadf0f6c14d96e3748b49fc1ed5f6bcda6b0a5a4b4c6b1", func := "codewright/codewrightlaw52.RegenerateOptimal", spec := "regenerateOptimal", apart := false }
def RegenerateOptimalSaid : Prop := regenerateOptimalRow.holds Try.pinned (OpenSpec.ofChange regenerateOptimalSpec)

/-- ITS FALSE NEIGHBOUR: 'it returns false'. Refute it at one input. -/
def regenerateOptimalWrong : ChangeSpec := { name := "regenerateOptimal", fn := fun _ => fun
  | [d1, d2, d3] => { results := [.lit (.bool false)], args := [d1, d2, d3] }
  | _ => none }
def RegenerateOptimalWrongFalsely : Prop := regenerateOptimalRow.holds Try.pinned (OpenSpec.ofChange regenerateOptimalWrong)

/-- 'codewrightlaw52.RegenerateHelps': WHATEVER THE INPUT: true; the input reads as it did. -/
def regenerateHelpsSpec : ChangeSpec := { name := "regenerateHelps", fn := fun _ => fun
  | [d1, d2, d3] => { results := [.lit (.bool true)], args := [d1, d2, d3] }
  | _ => none }
def regenerateHelpsRow : OpenClaim := { program := "ytaipghchkamajaa", sum := "ba5c9990e0dc6d0411dadf0f6c14d96e3748b49fc1ed5f6bcda6b0a5a4b4c6b1", func := "codewright/codewrightlaw52.RegenerateHelps", spec := "regenerateHelps", apart := false }
def RegenerateHelpsSaid : Prop := regenerateHelpsRow.holds Try.pinned (OpenSpec.ofChange regenerateHelpsSpec)

/-- ITS FALSE NEIGHBOUR: 'it returns false'. Refute it at one input. -/
def regenerateHelpsWrong : ChangeSpec := { name := "regenerateHelps", fn := fun _ => fun
  | [d1, d2, d3] => { results := [.lit (.bool false)], args := [d1, d2, d3] }
  | _ => none }
def RegenerateHelpsWrongFalsely : Prop := regenerateHelpsRow.holds Try.pinned (OpenSpec.ofChange regenerateHelpsWrong)

/-- 'codewrightlaw52.RegenerateEncodes': WHATEVER THE INPUT: true; the input reads as it did. -/
def regenerateEncodesSpec : ChangeSpec := { name := "regenerateEncodes", fn := fun _ => fun
  | [d1, d2] => { results := [.lit (.bool true)], args := [d1, d2] }
  | _ => none }
def regenerateEncodesRow : OpenClaim := { program := "ytaipghchkamajaa", sum := "ba5c9990e0dc6d0411dadf0f6c14d96e3748b49fc1ed5f6bcda6b0a5a4b4c6b1", func := "codewright/codewrightlaw52.RegenerateEncodes", spec := "regenerateEncodes", apart := false }
def RegenerateEncodesSaid : Prop := regenerateEncodesRow.holds Try.pinned (OpenSpec.ofChange regenerateEncodesSpec)

/-- ITS FALSE NEIGHBOUR: 'it returns false'. Refute it at one input. -/
def regenerateEncodesWrong : ChangeSpec := { name := "regenerateEncodes", fn := fun _ => fun
  | [d1, d2] => { results := [.lit (.bool false)], args := [d1, d2] }
  | _ => none }
def RegenerateEncodesWrongFalsely : Prop := regenerateEncodesRow.holds Try.pinned (OpenSpec.ofChange regenerateEncodesWrong)

/-- 'codewrightlaw52.RegenerateLinear': WHATEVER THE INPUT: true; the input reads as it did. -/
def regenerateLinearSpec : ChangeSpec := { name := "regenerateLinear", fn := fun _ => fun
  | [d1, d2, d3, d4] => { results := [.lit (.bool true)], args := [d1, d2, d3, d4] }
  | _ => none }
def regenerateLinearRow : OpenClaim := { program := "ytaipghchkamajaa", sum := "ba5c9990e0dc6d0411dadf0f6c14d96e3748b49fc1ed5f6bcda6b0a5a4b4c6b1", func := "codewright/codewrightlaw52.RegenerateLinear", spec := "regenerateLinear", apart := false }
def RegenerateLinearSaid : Prop := regenerateLinearRow.holds Try.pinned (OpenSpec.ofChange regenerateLinearSpec)

/-- ITS FALSE NEIGHBOUR: 'it returns false'. Refute it at one input. -/
def regenerateLinearWrong : ChangeSpec := { name := "regenerateLinear", fn := fun _ => fun
  | [d1, d2, d3, d4] => { results := [.lit (.bool false)], args := [d1, d2, d3, d4] }
  | _ => none }
def RegenerateLinearWrongFalsely : Prop := regenerateLinearRow.holds Try.pinned (OpenSpec.ofChange regenerateLinearWrong)

/-- 'codewrightlaw52.RegenerateRepairs': WHATEVER THE INPUT: true; the input reads as it did. -/
def regenerateRepairsSpec : ChangeSpec := { name := "regenerateRepairs", fn := fun _ => fun
  | [d1, d2, d3, d4] => { results := [.lit (.bool true)], args := [d1, d2, d3, d4] }
  | _ => none }
def regenerateRepairsRow : OpenClaim := { program := "ytaipghchkamajaa", sum := "ba5c9990e0dc6d0411dadf0f6c14d96e3748b49fc1ed5f6bcda6b0a5a4b4c6b1", func := "codewright/codewrightlaw52.RegenerateRepairs", spec := "regenerateRepairs", unfollowed := true, recurses := true, apart := false }
def RegenerateRepairsSaid : Prop := regenerateRepairsRow.holds Try.pinned (OpenSpec.ofChange regenerateRepairsSpec)

/-- ITS FALSE NEIGHBOUR: 'it returns false'. Refute it at one input. -/
def regenerateRepairsWrong : ChangeSpec := { name := "regenerateRepairs", fn := fun _ => fun
  | [d1, d2, d3, d4] => { results := [.lit (.bool false)], args := [d1, d2, d3, d4] }
  | _ => none }
def RegenerateRepairsWrongFalsely : Prop := regenerateRepairsRow.holds Try.pinned (OpenSpec.ofChange regenerateRepairsWrong)

/-- 'codewrightlaw52.RegenerateRestores': WHATEVER THE INPUT: true; the input reads as it did. -/
def regenerateRestoresSpec : ChangeSpec := { name := "regenerateRestores", fn := fun _ => fun
  | [d1, d2, d3, d4] => { results := [.lit (.bool true)], args := [d1, d2, d3, d4] }
  | _ => none }
def regenerateRestoresRow : OpenClaim := { program := "ytaipghchkamajaa", sum := "ba5c9990e0dc6d0411dadf0f6c14d96e3748b49fc1ed5f6bcda6b0a5a4b4c6b1", func := "codewright/codewrightlaw52.RegenerateRestores", spec := "regenerateRestores", unfollowed := true, recurses := true, apart := false }
def RegenerateRestoresSaid : Prop := regenerateRestoresRow.holds Try.pinned (OpenSpec.ofChange regenerateRestoresSpec)

/-- ITS FALSE NEIGHBOUR: 'it returns false'. Refute it at one input. -/
def regenerateRestoresWrong : ChangeSpec := { name := "regenerateRestores", fn := fun _ => fun
  | [d1, d2, d3, d4] => { results := [.lit (.bool false)], args := [d1, d2, d3, d4] }
  | _ => none }
def RegenerateRestoresWrongFalsely : Prop := regenerateRestoresRow.holds Try.pinned (OpenSpec.ofChange regenerateRestoresWrong)

/-- 'codewrightlaw52.RegenerateReconstructs': WHATEVER THE INPUT: true; the input reads as it did. -/
def regenerateReconstructsSpec : ChangeSpec := { name := "regenerateReconstructs", fn := fun _ => fun
  | [d1, d2, d3] => { results := [.lit (.bool true)], args := [d1, d2, d3] }
  | _ => none }
def regenerateReconstructsRow : OpenClaim := { program := "ytaipghchkamajaa", sum := "ba5c9990e0dc6d0411dadf0f6c14d96e3748b49fc1ed5f6bcda6b0a5a4b4c6b1", func := "codewright/codewrightlaw52.RegenerateReconstructs", spec := "regenerateReconstructs", unfollowed := true, recurses := true, apart := false }
def RegenerateReconstructsSaid : Prop := regenerateReconstructsRow.holds Try.pinned (OpenSpec.ofChange regenerateReconstructsSpec)

/-- ITS FALSE NEIGHBOUR: 'it returns false'. Refute it at one input. -/
def regenerateReconstructsWrong : ChangeSpec := { name := "regenerateReconstructs", fn := fun _ => fun
  | [d1, d2, d3] => { results := [.lit (.bool false)], args := [d1, d2, d3] }
  | _ => none }
def RegenerateReconstructsWrongFalsely : Prop := regenerateReconstructsRow.holds Try.pinned (OpenSpec.ofChange regenerateReconstructsWrong)

/-- 'codewrightlaw52.RegenerateAny': WHATEVER THE INPUT: true; the input reads as it did. -/
def regenerateAnySpec : ChangeSpec := { name := "regenerateAny", fn := fun _ => fun
  | [d1, d2, d3] => { results := [.lit (.bool true)], args := [d1, d2, d3] }
  | _ => none }
def regenerateAnyRow : OpenClaim := { program := "ytaipghchkamajaa", sum := "ba5c9990e0dc6d0411dadf0f6c14d96e3748b49fc1ed5f6bcda6b0a5a4b4c6b1", func := "codewright/codewrightlaw52.RegenerateAny", spec := "regenerateAny", unfollowed := true, recurses := true, apart := false }
def RegenerateAnySaid : Prop := regenerateAnyRow.holds Try.pinned (OpenSpec.ofChange regenerateAnySpec)

/-- ITS FALSE NEIGHBOUR: 'it returns false'. Refute it at one input. -/
def regenerateAnyWrong : ChangeSpec := { name := "regenerateAny", fn := fun _ => fun
  | [d1, d2, d3] => { results := [.lit (.bool false)], args := [d1, d2, d3] }
  | _ => none }
def RegenerateAnyWrongFalsely : Prop := regenerateAnyRow.holds Try.pinned (OpenSpec.ofChange regenerateAnyWrong)

/- THE SECOND FORM. 'bulk': how many values and letters a reading holds, each counted each time it is reached (what is shared counts as often as it is met; a slice's spare places count too). A statement '..UptoSaid' is the law's where the arguments, and the package variables that the reading takes, are together of bulk at most 1048576: NARROWER than '..Said'. Prove '..Said' where nothing that the law and all that it calls make is longer than what came in: it says more and counts as full. Else prove '..UptoSaid'. A law counts once. -/
mutual
def uptoBulk {H : Type} : DataW H → Nat
  | .lit (.string bytes) => bytes.length + 1
  | .lit _ => 1
  | .nil => 1
  | .ptr d => uptoBulk d + 1
  | .slice elems spare => uptoBulkAll elems + uptoBulkAll spare + 1
  | .agg parts => uptoBulkAll parts + 1
  | .iface _ d => uptoBulk d + 1
  | .map entries => uptoBulkEntries entries + 1
  | .held _ => 1
def uptoBulkAll {H : Type} : List (DataW H) → Nat
  | [] => 0
  | d :: r => uptoBulk d + uptoBulkAll r
def uptoBulkEntries {H : Type} : List (Lit × DataW H) → Nat
  | [] => 0
  | x :: r => uptoBulkEntry x + uptoBulkEntries r
def uptoBulkEntry {H : Type} : Lit × DataW H → Nat
  | (.string bytes, d) => bytes.length + uptoBulk d + 1
  | (_, d) => uptoBulk d + 1
 end
def uptoSmall : (H : Type) → List (DataW H) → Bool := fun _ ds => decide (uptoBulkAll ds ≤ 1048576)
def OpenSpec.upto (s : _root_.Go.ChangeSpec) : _root_.Go.OpenSpec := { _root_.Go.OpenSpec.ofChange s with cond := some uptoSmall }

/-- 'codewrightlaw52.RegenerateCuts', WHERE WHAT IT READS IS OF BULK AT MOST 1048576: true; the input reads as it did. -/
def regenerateCutsUptoRow : OpenClaim := { program := "ytaipghchkamajaa", sum := "ba5c9990e0dc6d0411dadf0f6c14d96e3748b49fc1ed5f6bcda6b0a5a4b4c6b1", func := "codewright/codewrightlaw52.RegenerateCuts", spec := "regenerateCuts", apart := false, narrowed := true }
def RegenerateCutsUptoSaid : Prop := regenerateCutsUptoRow.holds Try.pinned (OpenSpec.upto regenerateCutsSpec)

/-- 'codewrightlaw52.RegenerateGraphs', WHERE WHAT IT READS IS OF BULK AT MOST 1048576: true; the input reads as it did. -/
def regenerateGraphsUptoRow : OpenClaim := { program := "ytaipghchkamajaa", sum := "ba5c9990e0dc6d0411dadf0f6c14d96e3748b49fc1ed5f6bcda6b0a5a4b4c6b1", func := "codewright/codewrightlaw52.RegenerateGraphs", spec := "regenerateGraphs", apart := false, narrowed := true }
def RegenerateGraphsUptoSaid : Prop := regenerateGraphsUptoRow.holds Try.pinned (OpenSpec.upto regenerateGraphsSpec)

/-- 'codewrightlaw52.RegenerateFlows', WHERE WHAT IT READS IS OF BULK AT MOST 1048576: true; the input reads as it did. -/
def regenerateFlowsUptoRow : OpenClaim := { program := "ytaipghchkamajaa", sum := "ba5c9990e0dc6d0411dadf0f6c14d96e3748b49fc1ed5f6bcda6b0a5a4b4c6b1", func := "codewright/codewrightlaw52.RegenerateFlows", spec := "regenerateFlows", apart := false, narrowed := true }
def RegenerateFlowsUptoSaid : Prop := regenerateFlowsUptoRow.holds Try.pinned (OpenSpec.upto regenerateFlowsSpec)

/-- 'codewrightlaw52.RegenerateTight', WHERE WHAT IT READS IS OF BULK AT MOST 1048576: true; the input reads as it did. -/
def regenerateTightUptoRow : OpenClaim := { program := "ytaipghchkamajaa", sum := "ba5c9990e0dc6d0411dadf0f6c14d96e3748b49fc1ed5f6bcda6b0a5a4b4c6b1", func := "codewright/codewrightlaw52.RegenerateTight", spec := "regenerateTight", apart := false, narrowed := true }
def RegenerateTightUptoSaid : Prop := regenerateTightUptoRow.holds Try.pinned (OpenSpec.upto regenerateTightSpec)

/-- 'codewrightlaw52.RegenerateChecks', WHERE WHAT IT READS IS OF BULK AT MOST 1048576: true; the input reads as it did. -/
def regenerateChecksUptoRow : OpenClaim := { program := "ytaipghchkamajaa", sum := "ba5c9990e0dc6d0411dadf0f6c14d96e3748b49fc1ed5f6bcda6b0a5a4b4c6b1", func := "codewright/codewrightlaw52.RegenerateChecks", spec := "regenerateChecks", apart := false, narrowed := true }
def RegenerateChecksUptoSaid : Prop := regenerateChecksUptoRow.holds Try.pinned (OpenSpec.upto regenerateChecksSpec)

/-- 'codewrightlaw52.RegenerateOptimal', WHERE WHAT IT READS IS OF BULK AT MOST 1048576: true; the input reads as it did. -/
def regenerateOptimalUptoRow : OpenClaim := { program := "ytaipghchkamajaa", sum := "ba5c9990e0dc6d0411dadf0f6c14d96e3748b49fc1ed5f6bcda6b0a5a4b4c6b1", func := "codewright/codewrightlaw52.RegenerateOptimal", spec := "regenerateOptimal", apart := false, narrowed := true }
def RegenerateOptimalUptoSaid : Prop := regenerateOptimalUptoRow.holds Try.pinned (OpenSpec.upto regenerateOptimalSpec)

/-- 'codewrightlaw52.RegenerateHelps', WHERE WHAT IT READS IS OF BULK AT MOST 1048576: true; the input reads as it did. -/
def regenerateHelpsUptoRow : OpenClaim := { program := "ytaipghchkamajaa", sum := "ba5c9990e0dc6d0411dadf0f6c14d96e3748b49fc1ed5f6bcda6b0a5a4b4c6b1", func := "codewright/codewrightlaw52.RegenerateHelps", spec := "regenerateHelps", apart := false, narrowed := true }
def RegenerateHelpsUptoSaid : Prop := regenerateHelpsUptoRow.holds Try.pinned (OpenSpec.upto regenerateHelpsSpec)

/-- 'codewrightlaw52.RegenerateEncodes', WHERE WHAT IT READS IS OF BULK AT MOST 1048576: true; the input reads as it did. -/
def regenerateEncodesUptoRow : OpenClaim := { program := "ytaipghchkamajaa", sum := "ba5c9990e0dc6d0411dadf0f6c14d96e3748b49fc1ed5f6bcda6b0a5a4b4c6b1", func := "codewright/codewrightlaw52.RegenerateEncodes", spec := "regenerateEncodes", apart := false, narrowed := true }
def RegenerateEncodesUptoSaid : Prop := regenerateEncodesUptoRow.holds Try.pinned (OpenSpec.upto regenerateEncodesSpec)

/-- 'codewrightlaw52.RegenerateLinear', WHERE WHAT IT READS IS OF BULK AT MOST 1048576: true; the input reads as it did. -/
def regenerateLinearUptoRow : OpenClaim := { program := "ytaipghchkamajaa", sum := "ba5c9990e0dc6d0411dadf0f6c14d96e3748b49fc1ed5f6bcda6b0a5a4b4c6b1", func := "codewright/codewrightlaw52.RegenerateLinear", spec := "regenerateLinear", apart := false, narrowed := true }
def RegenerateLinearUptoSaid : Prop := regenerateLinearUptoRow.holds Try.pinned (OpenSpec.upto regenerateLinearSpec)

/-- 'codewrightlaw52.RegenerateRepairs', WHERE WHAT IT READS IS OF BULK AT MOST 1048576: true; the input reads as it did. -/
def regenerateRepairsUptoRow : OpenClaim := { program := "ytaipghchkamajaa", sum := "ba5c9990e0dc6d0411dadf0f6c14d96e3748b49fc1ed5f6bcda6b0a5a4b4c6b1", func := "codewright/codewrightlaw52.RegenerateRepairs", spec := "regenerateRepairs", unfollowed := true, recurses := true, apart := false, narrowed := true }
def RegenerateRepairsUptoSaid : Prop := regenerateRepairsUptoRow.holds Try.pinned (OpenSpec.upto regenerateRepairsSpec)

/-- 'codewrightlaw52.RegenerateRestores', WHERE WHAT IT READS IS OF BULK AT MOST 1048576: true; the input reads as it did. -/
def regenerateRestoresUptoRow : OpenClaim := { program := "ytaipghchkamajaa", sum := "ba5c9990e0dc6d0411dadf0f6c14d96e3748b49fc1ed5f6bcda6b0a5a4b4c6b1", func := "codewright/codewrightlaw52.RegenerateRestores", spec := "regenerateRestores", unfollowed := true, recurses := true, apart := false, narrowed := true }
def RegenerateRestoresUptoSaid : Prop := regenerateRestoresUptoRow.holds Try.pinned (OpenSpec.upto regenerateRestoresSpec)

/-- 'codewrightlaw52.RegenerateReconstructs', WHERE WHAT IT READS IS OF BULK AT MOST 1048576: true; the input reads as it did. -/
def regenerateReconstructsUptoRow : OpenClaim := { program := "ytaipghchkamajaa", sum := "ba5c9990e0dc6d0411dadf0f6c14d96e3748b49fc1ed5f6bcda6b0a5a4b4c6b1", func := "codewright/codewrightlaw52.RegenerateReconstructs", spec := "regenerateReconstructs", unfollowed := true, recurses := true, apart := false, narrowed := true }
def RegenerateReconstructsUptoSaid : Prop := regenerateReconstructsUptoRow.holds Try.pinned (OpenSpec.upto regenerateReconstructsSpec)

/-- 'codewrightlaw52.RegenerateAny', WHERE WHAT IT READS IS OF BULK AT MOST 1048576: true; the input reads as it did. -/
def regenerateAnyUptoRow : OpenClaim := { program := "ytaipghchkamajaa", sum := "ba5c9990e0dc6d0411dadf0f6c14d96e3748b49fc1ed5f6bcda6b0a5a4b4c6b1", func := "codewright/codewrightlaw52.RegenerateAny", spec := "regenerateAny", unfollowed := true, recurses := true, apart := false, narrowed := true }
def RegenerateAnyUptoSaid : Prop := regenerateAnyUptoRow.holds Try.pinned (OpenSpec.upto regenerateAnySpec)

end Rows
end Go.Proofs.Ytaipghchkamajaa
