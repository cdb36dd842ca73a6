/-
  No cell of these rows narrows 'for every input' (looked for: loops, veiled, ifaces, maps, wideKeys, modest, calm, conditions, laid).
  DERIVED. THE GIVEN ROWS OF THIS SEAT. 12 by the template 'for every input the law returns true; each argument reads behind the call as it read before'; 0 by the template 'total and deterministic' (their statements: YtamhdlkfhhpdpaaTotals.lean).
  GIVEN WITH THE SEED: the statements are not yours to turn. If you find one false, say at which input.
  Laid BY PROGRAM, IN A SANDBOX (cutbox-rows.mjs): the forced cells as the released guide's own fill.sh prints them over the translation 648190434e26122d… (all of the seat's roots in one cut). By AI agents, Wed Nov 11 2026. No macro, syntax, notation, axiom, sorry.
-/
import Derived.Test.YtamhdlkfhhpdpaaChecked
import GoSem.Claim
import GoSem.ClaimJoined
import GoSem.ClaimMapViews
import Derived.JoinedTies
import Derived.KernelRfl
namespace Go.Proofs.Ytamhdlkfhhpdpaa
/- THE CELL 'sum', in the pinned program and in every row, IS THE sha256 OF THE DUMP (.gsa) THAT YtamhdlkfhhpdpaaProg.lean LOADS. Nothing in Lean hashes anything: it is a label: what it is worth is what the hold of that sum in a sandbox is worth. -/
noncomputable def Try.pinned : Pinned := { name := "ytamhdlkfhhpdpaa", sum := "648190434e26122d6f0bfeb67b0dc1ccee3482cac5b7fb059b677026d1a23334", checked := Try.checked }
namespace Rows
def none {H : Type} : Left H := { results := [], args := [] }

/-- 'codewrightlaw09.MatrixCanonical': WHATEVER THE INPUT: true; the input reads as it did. -/
def matrixCanonicalSpec : ChangeSpec := { name := "matrixCanonical", fn := fun _ => fun
  | [d1, d2] => { results := [.lit (.bool true)], args := [d1, d2] }
  | _ => none }
def matrixCanonicalRow : OpenClaim := { program := "ytamhdlkfhhpdpaa", sum := "648190434e26122d6f0bfeb67b0dc1ccee3482cac5b7fb059b677026d1a23334", func := "codewright/codewrightlaw09.MatrixCanonical", spec := "matrixCanonical", unfollowed := true, recurses := true, apart := false }
def MatrixCanonicalSaid : Prop := matrixCanonicalRow.holds Try.pinned (OpenSpec.ofChange matrixCanonicalSpec)

/-- ITS FALSE NEIGHBOUR: 'it returns false'. Refute it at one input. -/
def matrixCanonicalWrong : ChangeSpec := { name := "matrixCanonical", fn := fun _ => fun
  | [d1, d2] => { results := [.lit (.bool false)], args := [d1, d2] }
  | _ => none }
def MatrixCanonicalWrongFalsely : Prop := matrixCanonicalRow.holds Try.pinned (OpenSpec.ofChange matrixCanonicalWrong)

/-- 'codewrightlaw09.MatrixReduced': WHATEVER THE INPUT: true; the input reads as it did. -/
def matrixReducedSpec : ChangeSpec := { name := "matrixReduced", fn := fun _ => fun
  | [d1, d2] => { results := [.lit (.bool true)], args := [d1, d2] }
  | _ => none }
def matrixReducedRow : OpenClaim := { program := "ytamhdlkfhhpdpaa", sum := "648190434e26122d6f0bfeb67b0dc1ccee3482cac5b7fb059b677026d1a23334", func := "codewright/codewrightlaw09.MatrixReduced", spec := "matrixReduced", unfollowed := true, recurses := true, apart := false }
def MatrixReducedSaid : Prop := matrixReducedRow.holds Try.pinned (OpenSpec.ofChange matrixReducedSpec)

/-- ITS FALSE NEIGHBOUR: 'it returns false'. Refute it at one input. -/
def matrixReducedWrong : ChangeSpec := { name := "matrixReduced", fn := fun _ => fun
  | [d1, d2] => { results := [.lit (.bool false)], args := [d1, d2] }
  | _ => none }
def MatrixReducedWrongFalsely : Prop := matrixReducedRow.holds Try.pinned (OpenSpec.ofChange matrixReducedWrong)

/-- 'codewrightlaw09.MatrixUnique': WHATEVER THE INPUT: true; the input reads as it did. -/
def matrixUniqueSpec : ChangeSpec := { name := "matrixUnique", fn := fun _ => fun
  | [d1, d2, d3] => { results := [.lit (.bool true)], args := [d1, d2, d3] }
  | _ => none }
def matrixUniqueRow : OpenClaim := { program := "ytamhdlkfhhpdpaa", sum := "648190434e26122d6f0bfeb67b0dc1ccee3482cac5b7fb059b677026d1a23334", func := "codewright/codewrightlaw09.MatrixUnique", spec := "matrixUnique", unfollowed := true, recurses := true, apart := false }
def MatrixUniqueSaid : Prop := matrixUniqueRow.holds Try.pinned (OpenSpec.ofChange matrixUniqueSpec)

/-- ITS FALSE NEIGHBOUR: 'it returns false'. Refute it at one input. -/
def matrixUniqueWrong : ChangeSpec := { name := "matrixUnique", fn := fun _ => fun
  | [d1, d2, d3] => { results := [.lit (.bool false)], args := [d1, d2, d3] }
  | _ => none }
def MatrixUniqueWrongFalsely : Prop := matrixUniqueRow.holds Try.pinned (OpenSpec.ofChange matrixUniqueWrong)

/-- 'codewrightlaw09.MatrixKernel': WHATEVER THE INPUT: true; the input reads as it did. -/
def matrixKernelSpec : ChangeSpec := { name := "matrixKernel", fn := fun _ => fun
  | [d1, d2] => { results := [.lit (.bool true)], args := [d1, d2] }
  | _ => none }
def matrixKernelRow : OpenClaim := { program := "ytamhdlkfhhpdpaa", sum := "648190434e26122d6f0bfeb67b0dc1ccee3482cac5b7fb059b677026d1a23334", func := "codewright/codewrightlaw09.MatrixKernel", spec := "matrixKernel", unfollowed := true, recurses := true, apart := false }
def MatrixKernelSaid : Prop := matrixKernelRow.holds Try.pinned (OpenSpec.ofChange matrixKernelSpec)

/-- ITS FALSE NEIGHBOUR: 'it returns false'. Refute it at one input. -/
def matrixKernelWrong : ChangeSpec := { name := "matrixKernel", fn := fun _ => fun
  | [d1, d2] => { results := [.lit (.bool false)], args := [d1, d2] }
  | _ => none }
def MatrixKernelWrongFalsely : Prop := matrixKernelRow.holds Try.pinned (OpenSpec.ofChange matrixKernelWrong)

/-- 'codewrightlaw09.MatrixSolve': WHATEVER THE INPUT: true; the input reads as it did. -/
def matrixSolveSpec : ChangeSpec := { name := "matrixSolve", fn := fun _ => fun
  | [d1, d2, d3] => { results := [.lit (.bool true)], args := [d1, d2, d3] }
  | _ => none }
def matrixSolveRow : OpenClaim := { program := "ytamhdlkfhhpdpaa", sum := "648190434e26122d6f0bfeb67b0dc1ccee3482cac5b7fb059b677026d1a23334", func := "codewright/codewrightlaw09.MatrixSolve", spec := "matrixSolve", unfollowed := true, recurses := true, apart := false }
def MatrixSolveSaid : Prop := matrixSolveRow.holds Try.pinned (OpenSpec.ofChange matrixSolveSpec)

/-- ITS FALSE NEIGHBOUR: 'it returns false'. Refute it at one input. -/
def matrixSolveWrong : ChangeSpec := { name := "matrixSolve", fn := fun _ => fun
  | [d1, d2, d3] => { results := [.lit (.bool false)], args := [d1, d2, d3] }
  | _ => none }
def MatrixSolveWrongFalsely : Prop := matrixSolveRow.holds Try.pinned (OpenSpec.ofChange matrixSolveWrong)

/-- 'codewrightlaw09.MatrixSolvable': WHATEVER THE INPUT: true; the input reads as it did. -/
def matrixSolvableSpec : ChangeSpec := { name := "matrixSolvable", fn := fun _ => fun
  | [d1, d2, d3] => { results := [.lit (.bool true)], args := [d1, d2, d3] }
  | _ => none }
def matrixSolvableRow : OpenClaim := { program := "ytamhdlkfhhpdpaa", sum := "648190434e26122d6f0bfeb67b0dc1ccee3482cac5b7fb059b677026d1a23334", func := "codewright/codewrightlaw09.MatrixSolvable", spec := "matrixSolvable", unfollowed := true, recurses := true, apart := false }
def MatrixSolvableSaid : Prop := matrixSolvableRow.holds Try.pinned (OpenSpec.ofChange matrixSolvableSpec)

/-- ITS FALSE NEIGHBOUR: 'it returns false'. Refute it at one input. -/
def matrixSolvableWrong : ChangeSpec := { name := "matrixSolvable", fn := fun _ => fun
  | [d1, d2, d3] => { results := [.lit (.bool false)], args := [d1, d2, d3] }
  | _ => none }
def MatrixSolvableWrongFalsely : Prop := matrixSolvableRow.holds Try.pinned (OpenSpec.ofChange matrixSolvableWrong)

/-- 'codewrightlaw09.MatrixInverse': WHATEVER THE INPUT: true; the input reads as it did. -/
def matrixInverseSpec : ChangeSpec := { name := "matrixInverse", fn := fun _ => fun
  | [d1, d2] => { results := [.lit (.bool true)], args := [d1, d2] }
  | _ => none }
def matrixInverseRow : OpenClaim := { program := "ytamhdlkfhhpdpaa", sum := "648190434e26122d6f0bfeb67b0dc1ccee3482cac5b7fb059b677026d1a23334", func := "codewright/codewrightlaw09.MatrixInverse", spec := "matrixInverse", unfollowed := true, recurses := true, apart := false }
def MatrixInverseSaid : Prop := matrixInverseRow.holds Try.pinned (OpenSpec.ofChange matrixInverseSpec)

/-- ITS FALSE NEIGHBOUR: 'it returns false'. Refute it at one input. -/
def matrixInverseWrong : ChangeSpec := { name := "matrixInverse", fn := fun _ => fun
  | [d1, d2] => { results := [.lit (.bool false)], args := [d1, d2] }
  | _ => none }
def MatrixInverseWrongFalsely : Prop := matrixInverseRow.holds Try.pinned (OpenSpec.ofChange matrixInverseWrong)

/-- 'codewrightlaw09.MatrixTransform': WHATEVER THE INPUT: true; the input reads as it did. -/
def matrixTransformSpec : ChangeSpec := { name := "matrixTransform", fn := fun _ => fun
  | [d1, d2] => { results := [.lit (.bool true)], args := [d1, d2] }
  | _ => none }
def matrixTransformRow : OpenClaim := { program := "ytamhdlkfhhpdpaa", sum := "648190434e26122d6f0bfeb67b0dc1ccee3482cac5b7fb059b677026d1a23334", func := "codewright/codewrightlaw09.MatrixTransform", spec := "matrixTransform", unfollowed := true, recurses := true, apart := false }
def MatrixTransformSaid : Prop := matrixTransformRow.holds Try.pinned (OpenSpec.ofChange matrixTransformSpec)

/-- ITS FALSE NEIGHBOUR: 'it returns false'. Refute it at one input. -/
def matrixTransformWrong : ChangeSpec := { name := "matrixTransform", fn := fun _ => fun
  | [d1, d2] => { results := [.lit (.bool false)], args := [d1, d2] }
  | _ => none }
def MatrixTransformWrongFalsely : Prop := matrixTransformRow.holds Try.pinned (OpenSpec.ofChange matrixTransformWrong)

/-- 'codewrightlaw09.MatrixRing': WHATEVER THE INPUT: true; the input reads as it did. -/
def matrixRingSpec : ChangeSpec := { name := "matrixRing", fn := fun _ => fun
  | [d1, d2, d3] => { results := [.lit (.bool true)], args := [d1, d2, d3] }
  | _ => none }
def matrixRingRow : OpenClaim := { program := "ytamhdlkfhhpdpaa", sum := "648190434e26122d6f0bfeb67b0dc1ccee3482cac5b7fb059b677026d1a23334", func := "codewright/codewrightlaw09.MatrixRing", spec := "matrixRing", unfollowed := true, recurses := true, apart := false }
def MatrixRingSaid : Prop := matrixRingRow.holds Try.pinned (OpenSpec.ofChange matrixRingSpec)

/-- ITS FALSE NEIGHBOUR: 'it returns false'. Refute it at one input. -/
def matrixRingWrong : ChangeSpec := { name := "matrixRing", fn := fun _ => fun
  | [d1, d2, d3] => { results := [.lit (.bool false)], args := [d1, d2, d3] }
  | _ => none }
def MatrixRingWrongFalsely : Prop := matrixRingRow.holds Try.pinned (OpenSpec.ofChange matrixRingWrong)

/-- 'codewrightlaw09.MatrixDet': WHATEVER THE INPUT: true; the input reads as it did. -/
def matrixDetSpec : ChangeSpec := { name := "matrixDet", fn := fun _ => fun
  | [d1, d2, d3] => { results := [.lit (.bool true)], args := [d1, d2, d3] }
  | _ => none }
def matrixDetRow : OpenClaim := { program := "ytamhdlkfhhpdpaa", sum := "648190434e26122d6f0bfeb67b0dc1ccee3482cac5b7fb059b677026d1a23334", func := "codewright/codewrightlaw09.MatrixDet", spec := "matrixDet", unfollowed := true, recurses := true, apart := false }
def MatrixDetSaid : Prop := matrixDetRow.holds Try.pinned (OpenSpec.ofChange matrixDetSpec)

/-- ITS FALSE NEIGHBOUR: 'it returns false'. Refute it at one input. -/
def matrixDetWrong : ChangeSpec := { name := "matrixDet", fn := fun _ => fun
  | [d1, d2, d3] => { results := [.lit (.bool false)], args := [d1, d2, d3] }
  | _ => none }
def MatrixDetWrongFalsely : Prop := matrixDetRow.holds Try.pinned (OpenSpec.ofChange matrixDetWrong)

/-- 'codewrightlaw09.MatrixPicks': WHATEVER THE INPUT: true; the input reads as it did. -/
def matrixPicksSpec : ChangeSpec := { name := "matrixPicks", fn := fun _ => fun
  | [d1, d2, d3] => { results := [.lit (.bool true)], args := [d1, d2, d3] }
  | _ => none }
def matrixPicksRow : OpenClaim := { program := "ytamhdlkfhhpdpaa", sum := "648190434e26122d6f0bfeb67b0dc1ccee3482cac5b7fb059b677026d1a23334", func := "codewright/codewrightlaw09.MatrixPicks", spec := "matrixPicks", unfollowed := true, recurses := true, apart := false }
def MatrixPicksSaid : Prop := matrixPicksRow.holds Try.pinned (OpenSpec.ofChange matrixPicksSpec)

/-- ITS FALSE NEIGHBOUR: 'it returns false'. Refute it at one input. -/
def matrixPicksWrong : ChangeSpec := { name := "matrixPicks", fn := fun _ => fun
  | [d1, d2, d3] => { results := [.lit (.bool false)], args := [d1, d2, d3] }
  | _ => none }
def MatrixPicksWrongFalsely : Prop := matrixPicksRow.holds Try.pinned (OpenSpec.ofChange matrixPicksWrong)

/-- 'codewrightlaw09.MatrixProducts': WHATEVER THE INPUT: true; the input reads as it did. -/
def matrixProductsSpec : ChangeSpec := { name := "matrixProducts", fn := fun _ => fun
  | [d1, d2, d3] => { results := [.lit (.bool true)], args := [d1, d2, d3] }
  | _ => none }
def matrixProductsRow : OpenClaim := { program := "ytamhdlkfhhpdpaa", sum := "648190434e26122d6f0bfeb67b0dc1ccee3482cac5b7fb059b677026d1a23334", func := "codewright/codewrightlaw09.MatrixProducts", spec := "matrixProducts", unfollowed := true, recurses := true, apart := false }
def MatrixProductsSaid : Prop := matrixProductsRow.holds Try.pinned (OpenSpec.ofChange matrixProductsSpec)

/-- ITS FALSE NEIGHBOUR: 'it returns false'. Refute it at one input. -/
def matrixProductsWrong : ChangeSpec := { name := "matrixProducts", fn := fun _ => fun
  | [d1, d2, d3] => { results := [.lit (.bool false)], args := [d1, d2, d3] }
  | _ => none }
def MatrixProductsWrongFalsely : Prop := matrixProductsRow.holds Try.pinned (OpenSpec.ofChange matrixProductsWrong)

/- THE SECOND FORM. 'bulk': how many values and letters a reading holds, each counted each time it is reached (what is shared counts as often as it is met; a slice's spare places count too). A statement '..UptoSaid' is the law's where the arguments, and the package variables that the reading takes, are together of bulk at most 1048576: NARROWER than '..Said'. Prove '..Said' where nothing that the law and all that it calls make is longer than what came in: it says more and counts as full. Else prove '..UptoSaid'. A law counts once. -/
mutual
def uptoBulk {H : Type} : DataW H → Nat
  | .lit (.string bytes) => bytes.length + 1
  | .lit _ => 1
  | .nil => 1
  | .ptr d => uptoBulk d + 1
  | .slice elems spare => uptoBulkAll elems + uptoBulkAll spare + 1
  | .agg parts => uptoBulkAll parts + 1
  | .iface _ d => uptoBulk d + 1
  | .map entries => uptoBulkEntries entries + 1
  | .held _ => 1
def uptoBulkAll {H : Type} : List (DataW H) → Nat
  | [] => 0
  | d :: r => uptoBulk d + uptoBulkAll r
def uptoBulkEntries {H : Type} : List (Lit × DataW H) → Nat
  | [] => 0
  | x :: r => uptoBulkEntry x + uptoBulkEntries r
def uptoBulkEntry {H : Type} : Lit × DataW H → Nat
  | (.string bytes, d) => bytes.length + uptoBulk d + 1
  | (_, d) => uptoBulk d + 1
 end
def uptoSmall : (H : Type) → List (DataW H) → Bool := fun _ ds => decide (uptoBulkAll ds ≤ 1048576)
def OpenSpec.upto (s : _root_.Go.ChangeSpec) : _root_.Go.OpenSpec := { _root_.Go.OpenSpec.ofChange s with cond := some uptoSmall }

/-- 'codewrightlaw09.MatrixCanonical', WHERE WHAT IT READS IS OF BULK AT MOST 1048576: true; the input reads as it did. -/
def matrixCanonicalUptoRow : OpenClaim := { program := "ytamhdlkfhhpdpaa", sum := "648190434e26122d6f0bfeb67b0dc1ccee3482cac5b7fb059b677026d1a23334", func := "codewright/codewrightlaw09.MatrixCanonical", spec := "matrixCanonical", unfollowed := true, recurses := true, apart := false, narrowed := true }
def MatrixCanonicalUptoSaid : Prop := matrixCanonicalUptoRow.holds Try.pinned (OpenSpec.upto matrixCanonicalSpec)

/-- 'codewrightlaw09.MatrixReduced', WHERE WHAT IT READS IS OF BULK AT MOST 1048576: true; the input reads as it did. -/
def matrixReducedUptoRow : OpenClaim := { program := "ytamhdlkfhhpdpaa", sum := "648190434e26122d6f0bfeb67b0dc1ccee3482cac5b7fb059b677026d1a23334", func := "codewright/codewrightlaw09.MatrixReduced", spec := "matrixReduced", unfollowed := true, recurses := true, apart := false, narrowed := true }
def MatrixReducedUptoSaid : Prop := matrixReducedUptoRow.holds Try.pinned (OpenSpec.upto matrixReducedSpec)

/-- 'codewrightlaw09.MatrixUnique', WHERE WHAT IT READS IS OF BULK AT MOST 1048576: true; the input reads as it did. -/
def matrixUniqueUptoRow : OpenClaim := { program := "ytamhdlkfhhpdpaa", sum := "648190434e26122d6f0bfeb67b0dc1ccee3482cac5b7fb059b677026d1a23334", func := "codewright/codewrightlaw09.MatrixUnique", spec := "matrixUnique", unfollowed := true, recurses := true, apart := false, narrowed := true }
def MatrixUniqueUptoSaid : Prop := matrixUniqueUptoRow.holds Try.pinned (OpenSpec.upto matrixUniqueSpec)

/-- 'codewrightlaw09.MatrixKernel', WHERE WHAT IT READS IS OF BULK AT MOST 1048576: true; the input reads as it did. -/
def matrixKernelUptoRow : OpenClaim := { program := "ytamhdlkfhhpdpaa", sum := "648190434e26122d6f0bfeb67b0dc1ccee3482cac5b7fb059b677026d1a23334", func := "codewright/codewrightlaw09.MatrixKernel", spec := "matrixKernel", unfollowed := true, recurses := true, apart := false, narrowed := true }
def MatrixKernelUptoSaid : Prop := matrixKernelUptoRow.holds Try.pinned (OpenSpec.upto matrixKernelSpec)

/-- 'codewrightlaw09.MatrixSolve', WHERE WHAT IT READS IS OF BULK AT MOST 1048576: true; the input reads as it did. -/
def matrixSolveUptoRow : OpenClaim := { program := "ytamhdlkfhhpdpaa", sum := "648190434e26122d6f0bfeb67b0dc1ccee3482cac5b7fb059b677026d1a23334", func := "codewright/codewrightlaw09.MatrixSolve", spec := "matrixSolve", unfollowed := true, recurses := true, apart := false, narrowed := true }
def MatrixSolveUptoSaid : Prop := matrixSolveUptoRow.holds Try.pinned (OpenSpec.upto matrixSolveSpec)

/-- 'codewrightlaw09.MatrixSolvable', WHERE WHAT IT READS IS OF BULK AT MOST 1048576: true; the input reads as it did. -/
def matrixSolvableUptoRow : OpenClaim := { program := "ytamhdlkfhhpdpaa", sum := "648190434e26122d6f0bfeb67b0dc1ccee3482cac5b7fb059b677026d1a23334", func := "codewright/codewrightlaw09.MatrixSolvable", spec := "matrixSolvable", unfollowed := true, recurses := true, apart := false, narrowed := true }
def MatrixSolvableUptoSaid : Prop := matrixSolvableUptoRow.holds Try.pinned (OpenSpec.upto matrixSolvableSpec)

/-- 'codewrightlaw09.MatrixInverse', WHERE WHAT IT READS IS OF BULK AT MOST 1048576: true; the input reads as it did. -/
def matrixInverseUptoRow : OpenClaim := { program := "ytamhdlkfhhpdpaa", sum := "648190434e26122d6f0bfeb67b0dc1ccee3482cac5b7fb059b677026d1a23334", func := "codewright/codewrightlaw09.MatrixInverse", spec := "matrixInverse", unfollowed := true, recurses := true, apart := false, narrowed := true }
def MatrixInverseUptoSaid : Prop := matrixInverseUptoRow.holds Try.pinned (OpenSpec.upto matrixInverseSpec)

/-- 'codewrightlaw09.MatrixTransform', WHERE WHAT IT READS IS OF BULK AT MOST 1048576: true; the input reads as it did. -/
def matrixTransformUptoRow : OpenClaim := { program := "ytamhdlkfhhpdpaa", sum := "648190434e26122d6f0bfeb67b0dc1ccee3482cac5b7fb059b677026d1a23334", func := "codewright/codewrightlaw09.MatrixTransform", spec := "matrixTransform", unfollowed := true, recurses := true, apart := false, narrowed := true }
def MatrixTransformUptoSaid : Prop := matrixTransformUptoRow.holds Try.pinned (OpenSpec.upto matrixTransformSpec)

/-- 'codewrightlaw09.MatrixRing', WHERE WHAT IT READS IS OF BULK AT MOST 1048576: true; the input reads as it did. -/
def matrixRingUptoRow : OpenClaim := { program := "ytamhdlkfhhpdpaa", sum := "648190434e26122d6f0bfeb67b0dc1ccee3482cac5b7fb059b677026d1a23334", func := "codewright/codewrightlaw09.MatrixRing", spec := "matrixRing", unfollowed := true, recurses := true, apart := false, narrowed := true }
def MatrixRingUptoSaid : Prop := matrixRingUptoRow.holds Try.pinned (OpenSpec.upto matrixRingSpec)

/-- 'codewrightlaw09.MatrixDet', WHERE WHAT IT READS IS OF BULK AT MOST 1048576: true; the input reads as it did. -/
def matrixDetUptoRow : OpenClaim := { program := "ytamhdlkfhhpdpaa", sum := "648190434e26122d6f0bfeb67b0dc1ccee3482cac5b7fb059b677026d1a23334", func := "codewright/codewrightlaw09.MatrixDet", spec := "matrixDet", unfollowed := true, recurses := true, apart := false, narrowed := true }
def MatrixDetUptoSaid : Prop := matrixDetUptoRow.holds Try.pinned (OpenSpec.upto matrixDetSpec)

/-- 'codewrightlaw09.MatrixPicks', WHERE WHAT IT READS IS OF BULK AT MOST 1048576: true; the input reads as it did. -/
def matrixPicksUptoRow : OpenClaim := { program := "ytamhdlkfhhpdpaa", sum := "648190434e26122d6f0bfeb67b0dc1ccee3482cac5b7fb059b677026d1a23334", func := "codewright/codewrightlaw09.MatrixPicks", spec := "matrixPicks", unfollowed := true, recurses := true, apart := false, narrowed := true }
def MatrixPicksUptoSaid : Prop := matrixPicksUptoRow.holds Try.pinned (OpenSpec.upto matrixPicksSpec)

/-- 'codewrightlaw09.MatrixProducts', WHERE WHAT IT READS IS OF BULK AT MOST 1048576: true; the input reads as it did. -/
def matrixProductsUptoRow : OpenClaim := { program := "ytamhdlkfhhpdpaa", sum := "648190434e26122d6f0bfeb67b0dc1ccee3482cac5b7fb059b677026d1a23334", func := "codewright/codewrightlaw09.MatrixProducts", spec := "matrixProducts", unfollowed := true, recurses := true, apart := false, narrowed := true }
def MatrixProductsUptoSaid : Prop := matrixProductsUptoRow.holds Try.pinned (OpenSpec.upto matrixProductsSpec)

end Rows
end Go.Proofs.Ytamhdlkfhhpdpaa
