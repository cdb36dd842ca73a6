/-
  No cell of these rows narrows 'for every input' (looked for: loops, veiled, ifaces, maps, wideKeys, modest, calm, conditions, laid).
  DERIVED. THE GIVEN ROWS OF THIS SEAT. 13 by the template 'for every input the law returns true; each argument reads behind the call as it read before'; 0 by the template 'total and deterministic' (their statements: YtfjhbdfgbpcchaaTotals.lean).
  GIVEN WITH THE SEED: the statements are not yours to turn. If you find one false, say at which input.
  Laid BY PROGRAM, IN A SANDBOX (cutbox-rows.mjs): the forced cells as the released guide's own fill.sh prints them over the translation bfabc72bc13aeeaa… (all of the seat's roots in one cut). By AI agents, Wed Nov 11 2026. No macro, syntax, notation, axiom, sorry.
-/
import Derived.Test.YtfjhbdfgbpcchaaChecked
import GoSem.Claim
import GoSem.ClaimJoined
import GoSem.ClaimMapViews
import Derived.JoinedTies
import Derived.KernelRfl
namespace Go.Proofs.Ytfjhbdfgbpcchaa
/- THE CELL 'sum', in the pinned program and in every row, IS THE sha256 OF THE DUMP (.gsa) THAT YtfjhbdfgbpcchaaProg.lean LOADS. Nothing in Lean hashes anything: it is a label: what it is worth is what the hold of that sum in a sandbox is worth. -/
noncomputable def Try.pinned : Pinned := { name := "ytfjhbdfgbpcchaa", sum := "bfabc72bc13aeeaa7a01dbfb1a4d40ed4b305aed69dab0c30580205624679654", checked := Try.checked }
namespace Rows
def none {H : Type} : Left H := { results := [], args := [] }

/-- 'codewrightlaw20.ConvChecks': WHATEVER THE INPUT: true; the input reads as it did. -/
def convChecksSpec : ChangeSpec := { name := "convChecks", fn := fun _ => fun
  | [d] => { results := [.lit (.bool true)], args := [d] }
  | _ => none }
def convChecksRow : OpenClaim := { program := "ytfjhbdfgbpcchaa", sum := "bfabc72bc13aeeaa7a01dbfb1a4d40ed4b305aed69dab0c30580205624679654", func := "codewright/codewrightlaw20.ConvChecks", spec := "convChecks", apart := false }
def ConvChecksSaid : Prop := convChecksRow.holds Try.pinned (OpenSpec.ofChange convChecksSpec)

/-- ITS FALSE NEIGHBOUR: 'it returns false'. Refute it at one input. -/
def convChecksWrong : ChangeSpec := { name := "convChecks", fn := fun _ => fun
  | [d] => { results := [.lit (.bool false)], args := [d] }
  | _ => none }
def ConvChecksWrongFalsely : Prop := convChecksRow.holds Try.pinned (OpenSpec.ofChange convChecksWrong)

/-- 'codewrightlaw20.ConvNext': WHATEVER THE INPUT: true; the input reads as it did. -/
def convNextSpec : ChangeSpec := { name := "convNext", fn := fun _ => fun
  | [d1, d2, d3] => { results := [.lit (.bool true)], args := [d1, d2, d3] }
  | _ => none }
def convNextRow : OpenClaim := { program := "ytfjhbdfgbpcchaa", sum := "bfabc72bc13aeeaa7a01dbfb1a4d40ed4b305aed69dab0c30580205624679654", func := "codewright/codewrightlaw20.ConvNext", spec := "convNext", apart := false }
def ConvNextSaid : Prop := convNextRow.holds Try.pinned (OpenSpec.ofChange convNextSpec)

/-- ITS FALSE NEIGHBOUR: 'it returns false'. Refute it at one input. -/
def convNextWrong : ChangeSpec := { name := "convNext", fn := fun _ => fun
  | [d1, d2, d3] => { results := [.lit (.bool false)], args := [d1, d2, d3] }
  | _ => none }
def ConvNextWrongFalsely : Prop := convNextRow.holds Try.pinned (OpenSpec.ofChange convNextWrong)

/-- 'codewrightlaw20.ConvEncodes': WHATEVER THE INPUT: true; the input reads as it did. -/
def convEncodesSpec : ChangeSpec := { name := "convEncodes", fn := fun _ => fun
  | [d1, d2] => { results := [.lit (.bool true)], args := [d1, d2] }
  | _ => none }
def convEncodesRow : OpenClaim := { program := "ytfjhbdfgbpcchaa", sum := "bfabc72bc13aeeaa7a01dbfb1a4d40ed4b305aed69dab0c30580205624679654", func := "codewright/codewrightlaw20.ConvEncodes", spec := "convEncodes", apart := false }
def ConvEncodesSaid : Prop := convEncodesRow.holds Try.pinned (OpenSpec.ofChange convEncodesSpec)

/-- ITS FALSE NEIGHBOUR: 'it returns false'. Refute it at one input. -/
def convEncodesWrong : ChangeSpec := { name := "convEncodes", fn := fun _ => fun
  | [d1, d2] => { results := [.lit (.bool false)], args := [d1, d2] }
  | _ => none }
def ConvEncodesWrongFalsely : Prop := convEncodesRow.holds Try.pinned (OpenSpec.ofChange convEncodesWrong)

/-- 'codewrightlaw20.ConvLinear': WHATEVER THE INPUT: true; the input reads as it did. -/
def convLinearSpec : ChangeSpec := { name := "convLinear", fn := fun _ => fun
  | [d1, d2, d3, d4] => { results := [.lit (.bool true)], args := [d1, d2, d3, d4] }
  | _ => none }
def convLinearRow : OpenClaim := { program := "ytfjhbdfgbpcchaa", sum := "bfabc72bc13aeeaa7a01dbfb1a4d40ed4b305aed69dab0c30580205624679654", func := "codewright/codewrightlaw20.ConvLinear", spec := "convLinear", apart := false }
def ConvLinearSaid : Prop := convLinearRow.holds Try.pinned (OpenSpec.ofChange convLinearSpec)

/-- ITS FALSE NEIGHBOUR: 'it returns false'. Refute it at one input. -/
def convLinearWrong : ChangeSpec := { name := "convLinear", fn := fun _ => fun
  | [d1, d2, d3, d4] => { results := [.lit (.bool false)], args := [d1, d2, d3, d4] }
  | _ => none }
def ConvLinearWrongFalsely : Prop := convLinearRow.holds Try.pinned (OpenSpec.ofChange convLinearWrong)

/-- 'codewrightlaw20.ConvMachine': WHATEVER THE INPUT: true; the input reads as it did. -/
def convMachineSpec : ChangeSpec := { name := "convMachine", fn := fun _ => fun
  | [d1, d2] => { results := [.lit (.bool true)], args := [d1, d2] }
  | _ => none }
def convMachineRow : OpenClaim := { program := "ytfjhbdfgbpcchaa", sum := "bfabc72bc13aeeaa7a01dbfb1a4d40ed4b305aed69dab0c30580205624679654", func := "codewright/codewrightlaw20.ConvMachine", spec := "convMachine", apart := false }
def ConvMachineSaid : Prop := convMachineRow.holds Try.pinned (OpenSpec.ofChange convMachineSpec)

/-- ITS FALSE NEIGHBOUR: 'it returns false'. Refute it at one input. -/
def convMachineWrong : ChangeSpec := { name := "convMachine", fn := fun _ => fun
  | [d1, d2] => { results := [.lit (.bool false)], args := [d1, d2] }
  | _ => none }
def ConvMachineWrongFalsely : Prop := convMachineRow.holds Try.pinned (OpenSpec.ofChange convMachineWrong)

/-- 'codewrightlaw20.ConvFrees': WHATEVER THE INPUT: true; the input reads as it did. -/
def convFreesSpec : ChangeSpec := { name := "convFrees", fn := fun _ => fun
  | [d] => { results := [.lit (.bool true)], args := [d] }
  | _ => none }
def convFreesRow : OpenClaim := { program := "ytfjhbdfgbpcchaa", sum := "bfabc72bc13aeeaa7a01dbfb1a4d40ed4b305aed69dab0c30580205624679654", func := "codewright/codewrightlaw20.ConvFrees", spec := "convFrees", apart := false }
def ConvFreesSaid : Prop := convFreesRow.holds Try.pinned (OpenSpec.ofChange convFreesSpec)

/-- ITS FALSE NEIGHBOUR: 'it returns false'. Refute it at one input. -/
def convFreesWrong : ChangeSpec := { name := "convFrees", fn := fun _ => fun
  | [d] => { results := [.lit (.bool false)], args := [d] }
  | _ => none }
def ConvFreesWrongFalsely : Prop := convFreesRow.holds Try.pinned (OpenSpec.ofChange convFreesWrong)

/-- 'codewrightlaw20.ConvMinors': WHATEVER THE INPUT: true; the input reads as it did. -/
def convMinorsSpec : ChangeSpec := { name := "convMinors", fn := fun _ => fun
  | [d] => { results := [.lit (.bool true)], args := [d] }
  | _ => none }
def convMinorsRow : OpenClaim := { program := "ytfjhbdfgbpcchaa", sum := "bfabc72bc13aeeaa7a01dbfb1a4d40ed4b305aed69dab0c30580205624679654", func := "codewright/codewrightlaw20.ConvMinors", spec := "convMinors", recurses := true, apart := false }
def ConvMinorsSaid : Prop := convMinorsRow.holds Try.pinned (OpenSpec.ofChange convMinorsSpec)

/-- ITS FALSE NEIGHBOUR: 'it returns false'. Refute it at one input. -/
def convMinorsWrong : ChangeSpec := { name := "convMinors", fn := fun _ => fun
  | [d] => { results := [.lit (.bool false)], args := [d] }
  | _ => none }
def ConvMinorsWrongFalsely : Prop := convMinorsRow.holds Try.pinned (OpenSpec.ofChange convMinorsWrong)

/-- 'codewrightlaw20.ConvCatastrophic': WHATEVER THE INPUT: true; the input reads as it did. -/
def convCatastrophicSpec : ChangeSpec := { name := "convCatastrophic", fn := fun _ => fun
  | [d] => { results := [.lit (.bool true)], args := [d] }
  | _ => none }
def convCatastrophicRow : OpenClaim := { program := "ytfjhbdfgbpcchaa", sum := "bfabc72bc13aeeaa7a01dbfb1a4d40ed4b305aed69dab0c30580205624679654", func := "codewright/codewrightlaw20.ConvCatastrophic", spec := "convCatastrophic", recurses := true, apart := false }
def ConvCatastrophicSaid : Prop := convCatastrophicRow.holds Try.pinned (OpenSpec.ofChange convCatastrophicSpec)

/-- ITS FALSE NEIGHBOUR: 'it returns false'. Refute it at one input. -/
def convCatastrophicWrong : ChangeSpec := { name := "convCatastrophic", fn := fun _ => fun
  | [d] => { results := [.lit (.bool false)], args := [d] }
  | _ => none }
def ConvCatastrophicWrongFalsely : Prop := convCatastrophicRow.holds Try.pinned (OpenSpec.ofChange convCatastrophicWrong)

/-- 'codewrightlaw20.ConvProofs': WHATEVER THE INPUT: true; the input reads as it did. -/
def convProofsSpec : ChangeSpec := { name := "convProofs", fn := fun _ => fun
  | [d1, d2] => { results := [.lit (.bool true)], args := [d1, d2] }
  | _ => none }
def convProofsRow : OpenClaim := { program := "ytfjhbdfgbpcchaa", sum := "bfabc72bc13aeeaa7a01dbfb1a4d40ed4b305aed69dab0c30580205624679654", func := "codewright/codewrightlaw20.ConvProofs", spec := "convProofs", apart := false }
def ConvProofsSaid : Prop := convProofsRow.holds Try.pinned (OpenSpec.ofChange convProofsSpec)

/-- ITS FALSE NEIGHBOUR: 'it returns false'. Refute it at one input. -/
def convProofsWrong : ChangeSpec := { name := "convProofs", fn := fun _ => fun
  | [d1, d2] => { results := [.lit (.bool false)], args := [d1, d2] }
  | _ => none }
def ConvProofsWrongFalsely : Prop := convProofsRow.holds Try.pinned (OpenSpec.ofChange convProofsWrong)

/-- 'codewrightlaw20.ConvBounds': WHATEVER THE INPUT: true; the input reads as it did. -/
def convBoundsSpec : ChangeSpec := { name := "convBounds", fn := fun _ => fun
  | [d1, d2, d3] => { results := [.lit (.bool true)], args := [d1, d2, d3] }
  | _ => none }
def convBoundsRow : OpenClaim := { program := "ytfjhbdfgbpcchaa", sum := "bfabc72bc13aeeaa7a01dbfb1a4d40ed4b305aed69dab0c30580205624679654", func := "codewright/codewrightlaw20.ConvBounds", spec := "convBounds", apart := false }
def ConvBoundsSaid : Prop := convBoundsRow.holds Try.pinned (OpenSpec.ofChange convBoundsSpec)

/-- ITS FALSE NEIGHBOUR: 'it returns false'. Refute it at one input. -/
def convBoundsWrong : ChangeSpec := { name := "convBounds", fn := fun _ => fun
  | [d1, d2, d3] => { results := [.lit (.bool false)], args := [d1, d2, d3] }
  | _ => none }
def ConvBoundsWrongFalsely : Prop := convBoundsRow.holds Try.pinned (OpenSpec.ofChange convBoundsWrong)

/-- 'codewrightlaw20.ConvInverses': WHATEVER THE INPUT: true; the input reads as it did. -/
def convInversesSpec : ChangeSpec := { name := "convInverses", fn := fun _ => fun
  | [d] => { results := [.lit (.bool true)], args := [d] }
  | _ => none }
def convInversesRow : OpenClaim := { program := "ytfjhbdfgbpcchaa", sum := "bfabc72bc13aeeaa7a01dbfb1a4d40ed4b305aed69dab0c30580205624679654", func := "codewright/codewrightlaw20.ConvInverses", spec := "convInverses", recurses := true, apart := false }
def ConvInversesSaid : Prop := convInversesRow.holds Try.pinned (OpenSpec.ofChange convInversesSpec)

/-- ITS FALSE NEIGHBOUR: 'it returns false'. Refute it at one input. -/
def convInversesWrong : ChangeSpec := { name := "convInverses", fn := fun _ => fun
  | [d] => { results := [.lit (.bool false)], args := [d] }
  | _ => none }
def ConvInversesWrongFalsely : Prop := convInversesRow.holds Try.pinned (OpenSpec.ofChange convInversesWrong)

/-- 'codewrightlaw20.ConvBlocks': WHATEVER THE INPUT: true; the input reads as it did. -/
def convBlocksSpec : ChangeSpec := { name := "convBlocks", fn := fun _ => fun
  | [d1, d2] => { results := [.lit (.bool true)], args := [d1, d2] }
  | _ => none }
def convBlocksRow : OpenClaim := { program := "ytfjhbdfgbpcchaa", sum := "bfabc72bc13aeeaa7a01dbfb1a4d40ed4b305aed69dab0c30580205624679654", func := "codewright/codewrightlaw20.ConvBlocks", spec := "convBlocks", unfollowed := true, recurses := true, apart := false }
def ConvBlocksSaid : Prop := convBlocksRow.holds Try.pinned (OpenSpec.ofChange convBlocksSpec)

/-- ITS FALSE NEIGHBOUR: 'it returns false'. Refute it at one input. -/
def convBlocksWrong : ChangeSpec := { name := "convBlocks", fn := fun _ => fun
  | [d1, d2] => { results := [.lit (.bool false)], args := [d1, d2] }
  | _ => none }
def ConvBlocksWrongFalsely : Prop := convBlocksRow.holds Try.pinned (OpenSpec.ofChange convBlocksWrong)

/-- 'codewrightlaw20.ConvTurns': WHATEVER THE INPUT: true; the input reads as it did. -/
def convTurnsSpec : ChangeSpec := { name := "convTurns", fn := fun _ => fun
  | [d1, d2, d3] => { results := [.lit (.bool true)], args := [d1, d2, d3] }
  | _ => none }
def convTurnsRow : OpenClaim := { program := "ytfjhbdfgbpcchaa", sum := "bfabc72bc13aeeaa7a01dbfb1a4d40ed4b305aed69dab0c30580205624679654", func := "codewright/codewrightlaw20.ConvTurns", spec := "convTurns", unfollowed := true, recurses := true, apart := false }
def ConvTurnsSaid : Prop := convTurnsRow.holds Try.pinned (OpenSpec.ofChange convTurnsSpec)

/-- ITS FALSE NEIGHBOUR: 'it returns false'. Refute it at one input. -/
def convTurnsWrong : ChangeSpec := { name := "convTurns", fn := fun _ => fun
  | [d1, d2, d3] => { results := [.lit (.bool false)], args := [d1, d2, d3] }
  | _ => none }
def ConvTurnsWrongFalsely : Prop := convTurnsRow.holds Try.pinned (OpenSpec.ofChange convTurnsWrong)

/- THE SECOND FORM. 'bulk': how many values and letters a reading holds, each counted each time it is reached (what is shared counts as often as it is met; a slice's spare places count too). A statement '..UptoSaid' is the law's where the arguments, and the package variables that the reading takes, are together of bulk at most 1048576: NARROWER than '..Said'. Prove '..Said' where nothing that the law and all that it calls make is longer than what came in: it says more and counts as full. Else prove '..UptoSaid'. A law counts once. -/
mutual
def uptoBulk {H : Type} : DataW H → Nat
  | .lit (.string bytes) => bytes.length + 1
  | .lit _ => 1
  | .nil => 1
  | .ptr d => uptoBulk d + 1
  | .slice elems spare => uptoBulkAll elems + uptoBulkAll spare + 1
  | .agg parts => uptoBulkAll parts + 1
  | .iface _ d => uptoBulk d + 1
  | .map entries => uptoBulkEntries entries + 1
  | .held _ => 1
def uptoBulkAll {H : Type} : List (DataW H) → Nat
  | [] => 0
  | d :: r => uptoBulk d + uptoBulkAll r
def uptoBulkEntries {H : Type} : List (Lit × DataW H) → Nat
  | [] => 0
  | x :: r => uptoBulkEntry x + uptoBulkEntries r
def uptoBulkEntry {H : Type} : Lit × DataW H → Nat
  | (.string bytes, d) => bytes.length + uptoBulk d + 1
  | (_, d) => uptoBulk d + 1
 end
def uptoSmall : (H : Type) → List (DataW H) → Bool := fun _ ds => decide (uptoBulkAll ds ≤ 1048576)
def OpenSpec.upto (s : _root_.Go.ChangeSpec) : _root_.Go.OpenSpec := { _root_.Go.OpenSpec.ofChange s with cond := some uptoSmall }

/-- 'codewrightlaw20.ConvChecks', WHERE WHAT IT READS IS OF BULK AT MOST 1048576: true; the input reads as it did. -/
def convChecksUptoRow : OpenClaim := { program := "ytfjhbdfgbpcchaa", sum := "bfabc72bc13aeeaa7a01dbfb1a4d40ed4b305aed69dab0c30580205624679654", func := "codewright/codewrightlaw20.ConvChecks", spec := "convChecks", apart := false, narrowed := true }
def ConvChecksUptoSaid : Prop := convChecksUptoRow.holds Try.pinned (OpenSpec.upto convChecksSpec)

/-- 'codewrightlaw20.ConvNext', WHERE WHAT IT READS IS OF BULK AT MOST 1048576: true; the input reads as it did. -/
def convNextUptoRow : OpenClaim := { program := "ytfjhbdfgbpcchaa", sum := "bfabc72bc13aeeaa7a01dbfb1a4d40ed4b305aed69dab0c30580205624679654", func := "codewright/codewrightlaw20.ConvNext", spec := "convNext", apart := false, narrowed := true }
def ConvNextUptoSaid : Prop := convNextUptoRow.holds Try.pinned (OpenSpec.upto convNextSpec)

/-- 'codewrightlaw20.ConvEncodes', WHERE WHAT IT READS IS OF BULK AT MOST 1048576: true; the input reads as it did. -/
def convEncodesUptoRow : OpenClaim := { program := "ytfjhbdfgbpcchaa", sum := "bfabc72bc13aeeaa7a01dbfb1a4d40ed4b305aed69dab0c30580205624679654", func := "codewright/codewrightlaw20.ConvEncodes", spec := "convEncodes", apart := false, narrowed := true }
def ConvEncodesUptoSaid : Prop := convEncodesUptoRow.holds Try.pinned (OpenSpec.upto convEncodesSpec)

/-- 'codewrightlaw20.ConvLinear', WHERE WHAT IT READS IS OF BULK AT MOST 1048576: true; the input reads as it did. -/
def convLinearUptoRow : OpenClaim := { program := "ytfjhbdfgbpcchaa", sum := "bfabc72bc13aeeaa7a01dbfb1a4d40ed4b305aed69dab0c30580205624679654", func := "codewright/codewrightlaw20.ConvLinear", spec := "convLinear", apart := false, narrowed := true }
def ConvLinearUptoSaid : Prop := convLinearUptoRow.holds Try.pinned (OpenSpec.upto convLinearSpec)

/-- 'codewrightlaw20.ConvMachine', WHERE WHAT IT READS IS OF BULK AT MOST 1048576: true; the input reads as it did. -/
def convMachineUptoRow : OpenClaim := { program := "ytfjhbdfgbpcchaa", sum := "bfabc72bc13aeeaa7a01dbfb1a4d40ed4b305aed69dab0c30580205624679654", func := "codewright/codewrightlaw20.ConvMachine", spec := "convMachine", apart := false, narrowed := true }
def ConvMachineUptoSaid : Prop := convMachineUptoRow.holds Try.pinned (OpenSpec.upto convMachineSpec)

/-- 'codewrightlaw20.ConvFrees', WHERE WHAT IT READS IS OF BULK AT MOST 1048576: true; the input reads as it did. -/
def convFreesUptoRow : OpenClaim := { program := "ytfjhbdfgbpcchaa", sum := "bfabc72bc13aeeaa7a01dbfb1a4d40ed4b305aed69dab0c30580205624679654", func := "codewright/codewrightlaw20.ConvFrees", spec := "convFrees", apart := false, narrowed := true }
def ConvFreesUptoSaid : Prop := convFreesUptoRow.holds Try.pinned (OpenSpec.upto convFreesSpec)

/-- 'codewrightlaw20.ConvMinors', WHERE WHAT IT READS IS OF BULK AT MOST 1048576: true; the input reads as it did. -/
def convMinorsUptoRow : OpenClaim := { program := "ytfjhbdfgbpcchaa", sum := "bfabc72bc13aeeaa7a01dbfb1a4d40ed4b305aed69dab0c30580205624679654", func := "codewright/codewrightlaw20.ConvMinors", spec := "convMinors", recurses := true, apart := false, narrowed := true }
def ConvMinorsUptoSaid : Prop := convMinorsUptoRow.holds Try.pinned (OpenSpec.upto convMinorsSpec)

/-- 'codewrightlaw20.ConvCatastrophic', WHERE WHAT IT READS IS OF BULK AT MOST 1048576: true; the input reads as it did. -/
def convCatastrophicUptoRow : OpenClaim := { program := "ytfjhbdfgbpcchaa", sum := "bfabc72bc13aeeaa7a01dbfb1a4d40ed4b305aed69dab0c30580205624679654", func := "codewright/codewrightlaw20.ConvCatastrophic", spec := "convCatastrophic", recurses := true, apart := false, narrowed := true }
def ConvCatastrophicUptoSaid : Prop := convCatastrophicUptoRow.holds Try.pinned (OpenSpec.upto convCatastrophicSpec)

/-- 'codewrightlaw20.ConvProofs', WHERE WHAT IT READS IS OF BULK AT MOST 1048576: true; the input reads as it did. -/
def convProofsUptoRow : OpenClaim := { program := "ytfjhbdfgbpcchaa", sum := "bfabc72bc13aeeaa7a01dbfb1a4d40ed4b305aed69dab0c30580205624679654", func := "codewright/codewrightlaw20.ConvProofs", spec := "convProofs", apart := false, narrowed := true }
def ConvProofsUptoSaid : Prop := convProofsUptoRow.holds Try.pinned (OpenSpec.upto convProofsSpec)

/-- 'codewrightlaw20.ConvBounds', WHERE WHAT IT READS IS OF BULK AT MOST 1048576: true; the input reads as it did. -/
def convBoundsUptoRow : OpenClaim := { program := "ytfjhbdfgbpcchaa", sum := "bfabc72bc13aeeaa7a01dbfb1a4d40ed4b305aed69dab0c30580205624679654", func := "codewright/codewrightlaw20.ConvBounds", spec := "convBounds", apart := false, narrowed := true }
def ConvBoundsUptoSaid : Prop := convBoundsUptoRow.holds Try.pinned (OpenSpec.upto convBoundsSpec)

/-- 'codewrightlaw20.ConvInverses', WHERE WHAT IT READS IS OF BULK AT MOST 1048576: true; the input reads as it did. -/
def convInversesUptoRow : OpenClaim := { program := "ytfjhbdfgbpcchaa", sum := "bfabc72bc13aeeaa7a01dbfb1a4d40ed4b305aed69dab0c30580205624679654", func := "codewright/codewrightlaw20.ConvInverses", spec := "convInverses", recurses := true, apart := false, narrowed := true }
def ConvInversesUptoSaid : Prop := convInversesUptoRow.holds Try.pinned (OpenSpec.upto convInversesSpec)

/-- 'codewrightlaw20.ConvBlocks', WHERE WHAT IT READS IS OF BULK AT MOST 1048576: true; the input reads as it did. -/
def convBlocksUptoRow : OpenClaim := { program := "ytfjhbdfgbpcchaa", sum := "bfabc72bc13aeeaa7a01dbfb1a4d40ed4b305aed69dab0c30580205624679654", func := "codewright/codewrightlaw20.ConvBlocks", spec := "convBlocks", unfollowed := true, recurses := true, apart := false, narrowed := true }
def ConvBlocksUptoSaid : Prop := convBlocksUptoRow.holds Try.pinned (OpenSpec.upto convBlocksSpec)

/-- 'codewrightlaw20.ConvTurns', WHERE WHAT IT READS IS OF BULK AT MOST 1048576: true; the input reads as it did. -/
def convTurnsUptoRow : OpenClaim := { program := "ytfjhbdfgbpcchaa", sum := "bfabc72bc13aeeaa7a01dbfb1a4d40ed4b305aed69dab0c30580205624679654", func := "codewright/codewrightlaw20.ConvTurns", spec := "convTurns", unfollowed := true, recurses := true, apart := false, narrowed := true }
def ConvTurnsUptoSaid : Prop := convTurnsUptoRow.holds Try.pinned (OpenSpec.upto convTurnsSpec)

end Rows
end Go.Proofs.Ytfjhbdfgbpcchaa
