/-
  No cell of these rows narrows 'for every input' (looked for: loops, veiled, ifaces, maps, wideKeys, modest, calm, conditions, laid).
  DERIVED. THE GIVEN ROWS OF THIS SEAT. 3 by the template 'for every input the law returns true; each argument reads behind the call as it read before'; 0 by the template 'total and deterministic' (their statements: YtcilbmggiahciaaTotals.lean).
  GIVEN WITH THE SEED: the statements are not yours to turn. If you find one false, say at which input.
  Laid BY PROGRAM, IN A SANDBOX (cutbox-rows.mjs): the forced cells as the released guide's own fill.sh prints them over the translation e9643f2d7cf4fbed… (all of the seat's roots in one cut). By AI agents, Wed Nov 11 2026. No macro, syntax, notation, axiom, sorry.
-/
import Derived.Test.YtcilbmggiahciaaChecked
import GoSem.Claim
import GoSem.ClaimJoined
import GoSem.ClaimMapViews
import Derived.JoinedTies
import Derived.KernelRfl
namespace Go.Proofs.Ytcilbmggiahciaa
/- THE CELL 'sum', in the pinned program and in every row, IS THE sha256 OF THE DUMP (.gsa) THAT YtcilbmggiahciaaProg.lean LOADS. Nothing in Lean hashes anything: it is a label: what it is worth is what the hold of that sum in a sandbox is worth. -/
noncomputable def Try.pinned : Pinned := { name := "ytcilbmggiahciaa", sum := "e9643f2d7cf4fbed641dc9d5d6bddea9c03ede18af9bc8ba849fe0a5101a7e0e", checked := Try.checked }
namespace Rows
def none {H : Type} : Left H := { results := [], args := [] }

/-- 'codewrightlaw28.CosetSyndromes': WHATEVER THE INPUT: true; the input reads as it did. -/
def cosetSyndromesSpec : ChangeSpec := { name := "cosetSyndromes", fn := fun _ => fun
  | [d1, d2, d3] => { results := [.lit (.bool true)], args := [d1, d2, d3] }
  | _ => none }
def cosetSyndromesRow : OpenClaim := { program := "ytcilbmggiahciaa", sum := "e9643f2d7cf4fbed641dc9d5d6bddea9c03ede18af9bc8ba849fe0a5101a7e0e", func := "codewright/codewrightlaw28.CosetSyndromes", spec := "cosetSyndromes", unfollowed := true, recurses := true, apart := false }
def CosetSyndromesSaid : Prop := cosetSyndromesRow.holds Try.pinned (OpenSpec.ofChange cosetSyndromesSpec)

/-- ITS FALSE NEIGHBOUR: 'it returns false'. Refute it at one input. -/
def cosetSyndromesWrong : ChangeSpec := { name := "cosetSyndromes", fn := fun _ => fun
  | [d1, d2, d3] => { results := [.lit (.bool false)], args := [d1, d2, d3] }
  | _ => none }
def CosetSyndromesWrongFalsely : Prop := cosetSyndromesRow.holds Try.pinned (OpenSpec.ofChange cosetSyndromesWrong)

/-- 'codewrightlaw28.CosetAccepts': WHATEVER THE INPUT: true; the input reads as it did. -/
def cosetAcceptsSpec : ChangeSpec := { name := "cosetAccepts", fn := fun _ => fun
  | [d1, d2] => { results := [.lit (.bool true)], args := [d1, d2] }
  | _ => none }
def cosetAcceptsRow : OpenClaim := { program := "ytcilbmggiahciaa", sum := "e9643f2d7cf4fbed641dc9d5d6bddea9c03ede18af9bc8ba849fe0a5101a7e0e", func := "codewright/codewrightlaw28.CosetAccepts", spec := "cosetAccepts", unfollowed := true, recurses := true, apart := false }
def CosetAcceptsSaid : Prop := cosetAcceptsRow.holds Try.pinned (OpenSpec.ofChange cosetAcceptsSpec)

/-- ITS FALSE NEIGHBOUR: 'it returns false'. Refute it at one input. -/
def cosetAcceptsWrong : ChangeSpec := { name := "cosetAccepts", fn := fun _ => fun
  | [d1, d2] => { results := [.lit (.bool false)], args := [d1, d2] }
  | _ => none }
def CosetAcceptsWrongFalsely : Prop := cosetAcceptsRow.holds Try.pinned (OpenSpec.ofChange cosetAcceptsWrong)

/-- 'codewrightlaw28.CosetBuilds': WHATEVER THE INPUT: true; the input reads as it did. -/
def cosetBuildsSpec : ChangeSpec := { name := "cosetBuilds", fn := fun _ => fun
  | [d] => { results := [.lit (.bool true)], args := [d] }
  | _ => none }
def cosetBuildsRow : OpenClaim := { program := "ytcilbmggiahciaa", sum := "e9643f2d7cf4fbed641dc9d5d6bddea9c03ede18af9bc8ba849fe0a5101a7e0e", func := "codewright/codewrightlaw28.CosetBuilds", spec := "cosetBuilds", unfollowed := true, recurses := true, apart := false }
def CosetBuildsSaid : Prop := cosetBuildsRow.holds Try.pinned (OpenSpec.ofChange cosetBuildsSpec)

/-- ITS FALSE NEIGHBOUR: 'it returns false'. Refute it at one input. -/
def cosetBuildsWrong : ChangeSpec := { name := "cosetBuilds", fn := fun _ => fun
  | [d] => { results := [.lit (.bool false)], args := [d] }
  | _ => none }
def CosetBuildsWrongFalsely : Prop := cosetBuildsRow.holds Try.pinned (OpenSpec.ofChange cosetBuildsWrong)

/- THE SECOND FORM. 'bulk': how many values and letters a reading holds, each counted each time it is reached (what is shared counts as often as it is met; a slice's spare places count too). A statement '..UptoSaid' is the law's where the arguments, and the package variables that the reading takes, are together of bulk at most 1048576: NARROWER than '..Said'. Prove '..Said' where nothing that the law and all that it calls make is longer than what came in: it says more and counts as full. Else prove '..UptoSaid'. A law counts once. -/
mutual
def uptoBulk {H : Type} : DataW H → Nat
  | .lit (.string bytes) => bytes.length + 1
  | .lit _ => 1
  | .nil => 1
  | .ptr d => uptoBulk d + 1
  | .slice elems spare => uptoBulkAll elems + uptoBulkAll spare + 1
  | .agg parts => uptoBulkAll parts + 1
  | .iface _ d => uptoBulk d + 1
  | .map entries => uptoBulkEntries entries + 1
  | .held _ => 1
def uptoBulkAll {H : Type} : List (DataW H) → Nat
  | [] => 0
  | d :: r => uptoBulk d + uptoBulkAll r
def uptoBulkEntries {H : Type} : List (Lit × DataW H) → Nat
  | [] => 0
  | x :: r => uptoBulkEntry x + uptoBulkEntries r
def uptoBulkEntry {H : Type} : Lit × DataW H → Nat
  | (.string bytes, d) => bytes.length + uptoBulk d + 1
  | (_, d) => uptoBulk d + 1
 end
def uptoSmall : (H : Type) → List (DataW H) → Bool := fun _ ds => decide (uptoBulkAll ds ≤ 1048576)
def OpenSpec.upto (s : _root_.Go.ChangeSpec) : _root_.Go.OpenSpec := { _root_.Go.OpenSpec.ofChange s with cond := some uptoSmall }

/-- 'codewrightlaw28.CosetSyndromes', WHERE WHAT IT READS IS OF BULK AT MOST 1048576: true; the input reads as it did. -/
def cosetSyndromesUptoRow : OpenClaim := { program := "ytcilbmggiahciaa", sum := "e9643f2d7cf4fbed641dc9d5d6bddea9c03ede18af9bc8ba849fe0a5101a7e0e", func := "codewright/codewrightlaw28.CosetSyndromes", spec := "cosetSyndromes", unfollowed := true, recurses := true, apart := false, narrowed := true }
def CosetSyndromesUptoSaid : Prop := cosetSyndromesUptoRow.holds Try.pinned (OpenSpec.upto cosetSyndromesSpec)

/-- 'codewrightlaw28.CosetAccepts', WHERE WHAT IT READS IS OF BULK AT MOST 1048576: true; the input reads as it did. -/
def cosetAcceptsUptoRow : OpenClaim := { program := "ytcilbmggiahciaa", sum := "e9643f2d7cf4fbed641dc9d5d6bddea9c03ede18af9bc8ba849fe0a5101a7e0e", func := "codewright/codewrightlaw28.CosetAccepts", spec := "cosetAccepts", unfollowed := true, recurses := true, apart := false, narrowed := true }
def CosetAcceptsUptoSaid : Prop := cosetAcceptsUptoRow.holds Try.pinned (OpenSpec.upto cosetAcceptsSpec)

/-- 'codewrightlaw28.CosetBuilds', WHERE WHAT IT READS IS OF BULK AT MOST 1048576: true; the input reads as it did. -/
def cosetBuildsUptoRow : OpenClaim := { program := "ytcilbmggiahciaa", sum := "e9643f2d7cf4fbed641dc9d5d6bddea9c03ede18af9bc8ba849fe0a5101a7e0e", func := "codewright/codewrightlaw28.CosetBuilds", spec := "cosetBuilds", unfollowed := true, recurses := true, apart := false, narrowed := true }
def CosetBuildsUptoSaid : Prop := cosetBuildsUptoRow.holds Try.pinned (OpenSpec.upto cosetBuildsSpec)

end Rows
end Go.Proofs.Ytcilbmggiahciaa
