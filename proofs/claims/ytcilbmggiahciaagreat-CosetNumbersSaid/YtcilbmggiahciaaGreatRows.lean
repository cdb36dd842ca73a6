/-
  No cell of these rows narrows 'for every input' (looked for: loops, veiled, ifaces, maps, wideKeys, modest, calm, conditions, laid).
  DERIVED. THE GIVEN ROWS OF THIS SEAT. 6 by the template 'for every input the law returns true; each argument reads behind the call as it read before'; 0 by the template 'total and deterministic' (their statements: YtcilbmggiahciaaGreatTotals.lean).
  GIVEN WITH THE SEED: the statements are not yours to turn. If you find one false, say at which input.
  Laid BY PROGRAM, IN A SANDBOX (cutbox-rows.mjs): the forced cells as the released guide's own fill.sh prints them over the translation 3b883053fff36abd… (all of the seat's roots in one cut). By AI agents, Wed Nov 11 2026. No macro, syntax, notation, axiom, sorry.
-/
import Derived.Test.YtcilbmggiahciaaGreatChecked
import GoSem.Claim
import GoSem.ClaimJoined
import GoSem.ClaimMapViews
import Derived.JoinedTies
import Derived.KernelRfl
namespace Go.Proofs.YtcilbmggiahciaaGreat
/- THE CELL 'sum', in the pinned program and in every row, IS THE sha256 OF THE DUMP (.gsa) THAT YtcilbmggiahciaaGreatProg.lean LOADS. Nothing in Lean hashes anything: it is a label: what it is worth is what the hold of that sum in a sandbox is worth. -/
noncomputable def Tryz.pinned : Pinned := { name := "ytcilbmggiahciaagreat", sum := "3b883053fff36abd599e9e02e2fba07c7108c0aa86e9c157b8076e9b4326cf0c", checked := Tryz.checked }
namespace Rows
def none {H : Type} : Left H := { results := [], args := [] }

/-- 'codewrightlaw28.CosetProfiles': WHATEVER THE INPUT: true; the input reads as it did. -/
def cosetProfilesSpec : ChangeSpec := { name := "cosetProfiles", fn := fun _ => fun
  | [d] => { results := [.lit (.bool true)], args := [d] }
  | _ => none }
def cosetProfilesRow : OpenClaim := { program := "ytcilbmggiahciaagreat", sum := "3b883053fff36abd599e9e02e2fba07c7108c0aa86e9c157b8076e9b4326cf0c", func := "codewright/codewrightlaw28.CosetProfiles", spec := "cosetProfiles", unfollowed := true, recurses := true, apart := false }
def CosetProfilesSaid : Prop := cosetProfilesRow.holds Tryz.pinned (OpenSpec.ofChange cosetProfilesSpec)

/-- ITS FALSE NEIGHBOUR: 'it returns false'. Refute it at one input. -/
def cosetProfilesWrong : ChangeSpec := { name := "cosetProfiles", fn := fun _ => fun
  | [d] => { results := [.lit (.bool false)], args := [d] }
  | _ => none }
def CosetProfilesWrongFalsely : Prop := cosetProfilesRow.holds Tryz.pinned (OpenSpec.ofChange cosetProfilesWrong)

/-- 'codewrightlaw28.CosetLeaders': WHATEVER THE INPUT: true; the input reads as it did. -/
def cosetLeadersSpec : ChangeSpec := { name := "cosetLeaders", fn := fun _ => fun
  | [d] => { results := [.lit (.bool true)], args := [d] }
  | _ => none }
def cosetLeadersRow : OpenClaim := { program := "ytcilbmggiahciaagreat", sum := "3b883053fff36abd599e9e02e2fba07c7108c0aa86e9c157b8076e9b4326cf0c", func := "codewright/codewrightlaw28.CosetLeaders", spec := "cosetLeaders", unfollowed := true, recurses := true, apart := false }
def CosetLeadersSaid : Prop := cosetLeadersRow.holds Tryz.pinned (OpenSpec.ofChange cosetLeadersSpec)

/-- ITS FALSE NEIGHBOUR: 'it returns false'. Refute it at one input. -/
def cosetLeadersWrong : ChangeSpec := { name := "cosetLeaders", fn := fun _ => fun
  | [d] => { results := [.lit (.bool false)], args := [d] }
  | _ => none }
def CosetLeadersWrongFalsely : Prop := cosetLeadersRow.holds Tryz.pinned (OpenSpec.ofChange cosetLeadersWrong)

/-- 'codewrightlaw28.CosetRadius': WHATEVER THE INPUT: true; the input reads as it did. -/
def cosetRadiusSpec : ChangeSpec := { name := "cosetRadius", fn := fun _ => fun
  | [d] => { results := [.lit (.bool true)], args := [d] }
  | _ => none }
def cosetRadiusRow : OpenClaim := { program := "ytcilbmggiahciaagreat", sum := "3b883053fff36abd599e9e02e2fba07c7108c0aa86e9c157b8076e9b4326cf0c", func := "codewright/codewrightlaw28.CosetRadius", spec := "cosetRadius", unfollowed := true, recurses := true, apart := false }
def CosetRadiusSaid : Prop := cosetRadiusRow.holds Tryz.pinned (OpenSpec.ofChange cosetRadiusSpec)

/-- ITS FALSE NEIGHBOUR: 'it returns false'. Refute it at one input. -/
def cosetRadiusWrong : ChangeSpec := { name := "cosetRadius", fn := fun _ => fun
  | [d] => { results := [.lit (.bool false)], args := [d] }
  | _ => none }
def CosetRadiusWrongFalsely : Prop := cosetRadiusRow.holds Tryz.pinned (OpenSpec.ofChange cosetRadiusWrong)

/-- 'codewrightlaw28.CosetNumbers': WHATEVER THE INPUT: true; the input reads as it did. -/
def cosetNumbersSpec : ChangeSpec := { name := "cosetNumbers", fn := fun _ => fun
  | [d] => { results := [.lit (.bool true)], args := [d] }
  | _ => none }
def cosetNumbersRow : OpenClaim := { program := "ytcilbmggiahciaagreat", sum := "3b883053fff36abd599e9e02e2fba07c7108c0aa86e9c157b8076e9b4326cf0c", func := "codewright/codewrightlaw28.CosetNumbers", spec := "cosetNumbers", unfollowed := true, recurses := true, apart := false }
def CosetNumbersSaid : Prop := cosetNumbersRow.holds Tryz.pinned (OpenSpec.ofChange cosetNumbersSpec)

/-- ITS FALSE NEIGHBOUR: 'it returns false'. Refute it at one input. -/
def cosetNumbersWrong : ChangeSpec := { name := "cosetNumbers", fn := fun _ => fun
  | [d] => { results := [.lit (.bool false)], args := [d] }
  | _ => none }
def CosetNumbersWrongFalsely : Prop := cosetNumbersRow.holds Tryz.pinned (OpenSpec.ofChange cosetNumbersWrong)

/-- 'codewrightlaw28.CosetDecodes': WHATEVER THE INPUT: true; the input reads as it did. -/
def cosetDecodesSpec : ChangeSpec := { name := "cosetDecodes", fn := fun _ => fun
  | [d] => { results := [.lit (.bool true)], args := [d] }
  | _ => none }
def cosetDecodesRow : OpenClaim := { program := "ytcilbmggiahciaagreat", sum := "3b883053fff36abd599e9e02e2fba07c7108c0aa86e9c157b8076e9b4326cf0c", func := "codewright/codewrightlaw28.CosetDecodes", spec := "cosetDecodes", unfollowed := true, recurses := true, apart := false }
def CosetDecodesSaid : Prop := cosetDecodesRow.holds Tryz.pinned (OpenSpec.ofChange cosetDecodesSpec)

/-- ITS FALSE NEIGHBOUR: 'it returns false'. Refute it at one input. -/
def cosetDecodesWrong : ChangeSpec := { name := "cosetDecodes", fn := fun _ => fun
  | [d] => { results := [.lit (.bool false)], args := [d] }
  | _ => none }
def CosetDecodesWrongFalsely : Prop := cosetDecodesRow.holds Tryz.pinned (OpenSpec.ofChange cosetDecodesWrong)

/-- 'codewrightlaw28.CosetLeast': WHATEVER THE INPUT: true; the input reads as it did. -/
def cosetLeastSpec : ChangeSpec := { name := "cosetLeast", fn := fun _ => fun
  | [d1, d2] => { results := [.lit (.bool true)], args := [d1, d2] }
  | _ => none }
def cosetLeastRow : OpenClaim := { program := "ytcilbmggiahciaagreat", sum := "3b883053fff36abd599e9e02e2fba07c7108c0aa86e9c157b8076e9b4326cf0c", func := "codewright/codewrightlaw28.CosetLeast", spec := "cosetLeast", unfollowed := true, recurses := true, apart := false }
def CosetLeastSaid : Prop := cosetLeastRow.holds Tryz.pinned (OpenSpec.ofChange cosetLeastSpec)

/-- ITS FALSE NEIGHBOUR: 'it returns false'. Refute it at one input. -/
def cosetLeastWrong : ChangeSpec := { name := "cosetLeast", fn := fun _ => fun
  | [d1, d2] => { results := [.lit (.bool false)], args := [d1, d2] }
  | _ => none }
def CosetLeastWrongFalsely : Prop := cosetLeastRow.holds Tryz.pinned (OpenSpec.ofChange cosetLeastWrong)

/- THE SECOND FORM. 'bulk': how many values and letters a reading holds, each counted each time it is reached (what is shared counts as often as it is met; a slice's spare places count too). A statement '..UptoSaid' is the law's where the arguments, and the package variables that the reading takes, are together of bulk at most 1048576: NARROWER than '..Said'. Prove '..Said' where nothing that the law and all that it calls make is longer than what came in: it says more and counts as full. Else prove '..UptoSaid'. A law counts once. -/
mutual
def uptoBulk {H : Type} : DataW H → Nat
  | .lit (.string bytes) => bytes.length + 1
  | .lit _ => 1
  | .nil => 1
  | .ptr d => uptoBulk d + 1
  | .slice elems spare => uptoBulkAll elems + uptoBulkAll spare + 1
  | .agg parts => uptoBulkAll parts + 1
  | .iface _ d => uptoBulk d + 1
  | .map entries => uptoBulkEntries entries + 1
  | .held _ => 1
def uptoBulkAll {H : Type} : List (DataW H) → Nat
  | [] => 0
  | d :: r => uptoBulk d + uptoBulkAll r
def uptoBulkEntries {H : Type} : List (Lit × DataW H) → Nat
  | [] => 0
  | x :: r => uptoBulkEntry x + uptoBulkEntries r
def uptoBulkEntry {H : Type} : Lit × DataW H → Nat
  | (.string bytes, d) => bytes.length + uptoBulk d + 1
  | (_, d) => uptoBulk d + 1
 end
def uptoSmall : (H : Type) → List (DataW H) → Bool := fun _ ds => decide (uptoBulkAll ds ≤ 1048576)
def OpenSpec.upto (s : _root_.Go.ChangeSpec) : _root_.Go.OpenSpec := { _root_.Go.OpenSpec.ofChange s with cond := some uptoSmall }

/-- 'codewrightlaw28.CosetProfiles', WHERE WHAT IT READS IS OF BULK AT MOST 1048576: true; the input reads as it did. -/
def cosetProfilesUptoRow : OpenClaim := { program := "ytcilbmggiahciaagreat", sum := "3b883053fff36abd599e9e02e2fba07c7108c0aa86e9c157b8076e9b4326cf0c", func := "codewright/codewrightlaw28.CosetProfiles", spec := "cosetProfiles", unfollowed := true, recurses := true, apart := false, narrowed := true }
def CosetProfilesUptoSaid : Prop := cosetProfilesUptoRow.holds Tryz.pinned (OpenSpec.upto cosetProfilesSpec)

/-- 'codewrightlaw28.CosetLeaders', WHERE WHAT IT READS IS OF BULK AT MOST 1048576: true; the input reads as it did. -/
def cosetLeadersUptoRow : OpenClaim := { program := "ytcilbmggiahciaagreat", sum := "3b883053fff36abd599e9e02e2fba07c7108c0aa86e9c157b8076e9b4326cf0c", func := "codewright/codewrightlaw28.CosetLeaders", spec := "cosetLeaders", unfollowed := true, recurses := true, apart := false, narrowed := true }
def CosetLeadersUptoSaid : Prop := cosetLeadersUptoRow.holds Tryz.pinned (OpenSpec.upto cosetLeadersSpec)

/-- 'codewrightlaw28.CosetRadius', WHERE WHAT IT READS IS OF BULK AT MOST 1048576: true; the input reads as it did. -/
def cosetRadiusUptoRow : OpenClaim := { program := "ytcilbmggiahciaagreat", sum := "3b883053fff36abd599e9e02e2fba07c7108c0aa86e9c157b8076e9b4326cf0c", func := "codewright/codewrightlaw28.CosetRadius", spec := "cosetRadius", unfollowed := true, recurses := true, apart := false, narrowed := true }
def CosetRadiusUptoSaid : Prop := cosetRadiusUptoRow.holds Tryz.pinned (OpenSpec.upto cosetRadiusSpec)

/-- 'codewrightlaw28.CosetNumbers', WHERE WHAT IT READS IS OF BULK AT MOST 1048576: true; the input reads as it did. -/
def cosetNumbersUptoRow : OpenClaim := { program := "ytcilbmggiahciaagreat", sum := "3b883053fff36abd599e9e02e2fba07c7108c0aa86e9c157b8076e9b4326cf0c", func := "codewright/codewrightlaw28.CosetNumbers", spec := "cosetNumbers", unfollowed := true, recurses := true, apart := false, narrowed := true }
def CosetNumbersUptoSaid : Prop := cosetNumbersUptoRow.holds Tryz.pinned (OpenSpec.upto cosetNumbersSpec)

/-- 'codewrightlaw28.CosetDecodes', WHERE WHAT IT READS IS OF BULK AT MOST 1048576: true; the input reads as it did. -/
def cosetDecodesUptoRow : OpenClaim := { program := "ytcilbmggiahciaagreat", sum := "3b883053fff36abd599e9e02e2fba07c7108c0aa86e9c157b8076e9b4326cf0c", func := "codewright/codewrightlaw28.CosetDecodes", spec := "cosetDecodes", unfollowed := true, recurses := true, apart := false, narrowed := true }
def CosetDecodesUptoSaid : Prop := cosetDecodesUptoRow.holds Tryz.pinned (OpenSpec.upto cosetDecodesSpec)

/-- 'codewrightlaw28.CosetLeast', WHERE WHAT IT READS IS OF BULK AT MOST 1048576: true; the input reads as it did. -/
def cosetLeastUptoRow : OpenClaim := { program := "ytcilbmggiahciaagreat", sum := "3b883053fff36abd599e9e02e2fba07c7108c0aa86e9c157b8076e9b4326cf0c", func := "codewright/codewrightlaw28.CosetLeast", spec := "cosetLeast", unfollowed := true, recurses := true, apart := false, narrowed := true }
def CosetLeastUptoSaid : Prop := cosetLeastUptoRow.holds Tryz.pinned (OpenSpec.upto cosetLeastSpec)

end Rows
end Go.Proofs.YtcilbmggiahciaaGreat
