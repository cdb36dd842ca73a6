/-
  RegenerateTight: for every input the law returns true, and each argument reads as it did. No condition.
-/
import Derived.Test.YtaipghchkamajaaRows
import Derived.Test.YtaipghchkamajaaCw
import Derived.Test.YtaipghchkamajaaCx
import Derived.Test.YtaipghchkamajaaCy
import Derived.Test.YtaipghchkamajaaCz
import Derived.Test.YtaipghchkamajaaTab
import Derived.Test.YtaipghchkamajaaPlainL
import Derived.Test.YtaipghchkamajaaPlainG
import Derived.Test.YtaipghchkamajaaPlainC
import Derived.Test.YtaipghchkamajaaPlainFw
import Derived.Test.YtaipghchkamajaaPlainFx
import Derived.Test.YtaipghchkamajaaLists
import Derived.Test.YtaipghchkamajaaGraph
import Derived.Test.YtaipghchkamajaaReach
import Derived.Test.YtaipghchkamajaaMax
import Derived.Test.YtaipghchkamajaaFlows
import Derived.WalkKit
import Derived.ProofKit
import Derived.OpenShut
namespace Go.Proofs.Ytaipghchkamajaa.regenerateTight
open Go.ChangeShapes Go.WideShapes Go.ChangeAt Go.RowKit Go.Cw
set_option linter.unusedVariables false
theorem own : ownKnob Try.prog.godebug = none := by kernel_rfl
theorem laidOut : laidOutB Try.prog = true := by kernel_rfl
theorem of_params : ∀ t ∈ Try.f6.params.toList, Try.prog.readableRec t = true ∧ t < Try.prog.types.size := by
  have h : (Try.f6.params.toList.all fun t => Try.prog.readableRec t && decide (t < Try.prog.types.size)) = true := by kernel_rfl
  intro t ht
  have := List.all_eq_true.1 h t ht
  simpa using this
set_option maxRecDepth 100000 in
theorem lifted (os : Os) (started : os.Started) (H : Type) (enc : TypeId × Value → H) :
    ReturnsInHanded {} Try.checked os 6 .any (Rows.regenerateTightSpec.pre6 enc Try.prog Try.f6 Rows.regenerateTightRow.domain false) (Rows.regenerateTightSpec.post enc Try.prog Try.f6 false true false false) := by
  refine returnsInHanded_of_change (C := Try.checked) own started (by kernel_rfl) Try.func6
    (ChangeSpec.witness6 (enc := enc) (C := Try.checked) false ⟨#[], #[.int .u8 0, .int .u8 0, .int .u8 0, .int .u8 0], []⟩ 8 (by kernel_rfl) (by kernel_rfl) (by kernel_rfl) (by kernel_rfl)) ?_
  intro W base args ds gs before hval0 hW hcnd _
  have hval : ∀ (j : Nat) t v, Try.f6.params[j]? = some t → args[j]? = some v → Value.okWide Try.prog W .any base t v := hval0
  have hW' := hW
  obtain ⟨p, q, hA0, hV, rfl, hfz, hnd⟩ := hW
  have hA : DataW.TrodAll enc Try.prog W 0 (fun _ => true) true Try.f6.params.toList args.toList ds p := hA0
  rw [Try.params6] at hA hval
  obtain ⟨v0, vs0, d0, ds0, p0, q0, hargs, rfl, rfl, h0, r0⟩ := trodAll_cons hA
  obtain ⟨v1, vs1, d1, ds1, p1, q1, rfl, rfl, rfl, h1, r1⟩ := trodAll_cons r0
  obtain ⟨v2, vs2, d2, ds2, p2, q2, rfl, rfl, rfl, h2, r2⟩ := trodAll_cons r1
  obtain ⟨v3, vs3, d3, ds3, p3, q3, rfl, rfl, rfl, h3, r3⟩ := trodAll_cons r2
  obtain ⟨rfl, rfl, rfl⟩ := trodAll_nil r3
  obtain rfl : args = #[v0, v1, v2, v3] := by cases args; simp_all
  obtain ⟨rfl, rfl⟩ := trodVars_none hV
  obtain ⟨a0, g0, e0⟩ := rd_arg (rd_u8 Try.underlying5) (mk_int Try.underlying5 (hval 0 5 v0 rfl rfl)) h0
  obtain ⟨a1, g1, e1⟩ := rd_arg (rd_u8 Try.underlying5) (mk_int Try.underlying5 (hval 1 5 v1 rfl rfl)) h1
  obtain ⟨a2, g2, e2⟩ := rd_arg (rd_u8 Try.underlying5) (mk_int Try.underlying5 (hval 2 5 v2 rfl rfl)) h2
  obtain ⟨a3, g3, e3⟩ := rd_arg (rd_u8 Try.underlying5) (mk_int Try.underlying5 (hval 3 5 v3 rfl rfl)) h3
  refine (law_walk (vs := [v0, v1, v2, v3]) (RegenerateTight_ok a0 a1 a2 a3 g0.1 g0.2 g1.1 g1.2 g2.1 g2.2 g3.1 g3.2) (HoldsAll.cons e0 (HoldsAll.cons e1 (HoldsAll.cons e2 (HoldsAll.cons e3 (HoldsAll.nil _ _)))))).mono fun e W' ⟨he, hg⟩ => ?_
  subst he
  exact ⟨_, rfl, law_post laidOut (fun t ht => of_params t ht) rfl Try.underlying4 rfl hW' rfl rfl rfl hg⟩

theorem over : Rows.regenerateTightRow.holds Try.pinned (OpenSpec.ofChange Rows.regenerateTightSpec) :=
  OpenClaim.holds_of_wide 6 Try.f6 rfl rfl rfl rfl rfl rfl rfl ⟨rfl, rfl, rfl, rfl, rfl⟩ rfl rfl rfl rfl rfl (by kernel_rfl) Try.func6 (by kernel_rfl)
    (of_decide_eq_true (by kernel_rfl)) (by unfold Func.isWrapper; first | (rw [if_pos (by decide +kernel)]; kernel_rfl) | (rw [if_neg (by decide +kernel)]; exact ⟨rfl, rfl⟩))
    (fun os started H enc _ => lifted os started H enc)
theorem proved : Rows.RegenerateTightSaid :=
  over
#print axioms proved
end Go.Proofs.Ytaipghchkamajaa.regenerateTight
