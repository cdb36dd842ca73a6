/-
  RegenerateFlows: for every input the law returns true, and each argument reads as it did. No condition.
-/
import Derived.Test.YtaipghchkamajaaRows
import Derived.Test.YtaipghchkamajaaCw
import Derived.Test.YtaipghchkamajaaCx
import Derived.Test.YtaipghchkamajaaCy
import Derived.Test.YtaipghchkamajaaCz
import Derived.Test.YtaipghchkamajaaTab
import Derived.Test.YtaipghchkamajaaPlainL
import Derived.Test.YtaipghchkamajaaPlainG
import Derived.Test.YtaipghchkamajaaPlainC
import Derived.Test.YtaipghchkamajaaPlainFw
import Derived.Test.YtaipghchkamajaaPlainFx
import Derived.Test.YtaipghchkamajaaLists
import Derived.Test.YtaipghchkamajaaGraph
import Derived.Test.YtaipghchkamajaaReach
import Derived.Test.YtaipghchkamajaaMax
import Derived.Test.YtaipghchkamajaaFlows
import Derived.WalkKit
import Derived.ProofKit
import Derived.OpenShut
namespace Go.Proofs.Ytaipghchkamajaa.regenerateFlows
open Go.ChangeShapes Go.WideShapes Go.ChangeAt Go.RowKit Go.Cw
set_option linter.unusedVariables false
theorem own : ownKnob Try.prog.godebug = none := by kernel_rfl
theorem laidOut : laidOutB Try.prog = true := by kernel_rfl
theorem of_params : ∀ t ∈ Try.f5.params.toList, Try.prog.readableRec t = true ∧ t < Try.prog.types.size := by
  have h : (Try.f5.params.toList.all fun t => Try.prog.readableRec t && decide (t < Try.prog.types.size)) = true := by kernel_rfl
  intro t ht
  have := List.all_eq_true.1 h t ht
  simpa using this
set_option maxRecDepth 100000 in
theorem lifted (os : Os) (started : os.Started) (H : Type) (enc : TypeId × Value → H) :
    ReturnsInHanded {} Try.checked os 5 .any (Rows.regenerateFlowsSpec.pre6 enc Try.prog Try.f5 Rows.regenerateFlowsRow.domain false) (Rows.regenerateFlowsSpec.post enc Try.prog Try.f5 false true false false) := by
  refine returnsInHanded_of_change (C := Try.checked) own started (by kernel_rfl) Try.func5
    (ChangeSpec.witness6 (enc := enc) (C := Try.checked) false ⟨#[], #[.int .i64 0, .int .i64 0, .int .i64 0, .int .i64 0, .int .i64 0, .slice none 0 0, .slice none 0 0], []⟩ 8 (by kernel_rfl) (by kernel_rfl) (by kernel_rfl) (by kernel_rfl)) ?_
  intro W base args ds gs before hval0 hW hcnd _
  have hval : ∀ (j : Nat) t v, Try.f5.params[j]? = some t → args[j]? = some v → Value.okWide Try.prog W .any base t v := hval0
  have hW' := hW
  obtain ⟨p, q, hA0, hV, rfl, hfz, hnd⟩ := hW
  have hA : DataW.TrodAll enc Try.prog W 0 (fun _ => true) true Try.f5.params.toList args.toList ds p := hA0
  rw [Try.params5] at hA hval
  obtain ⟨v0, vs0, d0, ds0, p0, q0, hargs, rfl, rfl, h0, r0⟩ := trodAll_cons hA
  obtain ⟨v1, vs1, d1, ds1, p1, q1, rfl, rfl, rfl, h1, r1⟩ := trodAll_cons r0
  obtain ⟨v2, vs2, d2, ds2, p2, q2, rfl, rfl, rfl, h2, r2⟩ := trodAll_cons r1
  obtain ⟨v3, vs3, d3, ds3, p3, q3, rfl, rfl, rfl, h3, r3⟩ := trodAll_cons r2
  obtain ⟨v4, vs4, d4, ds4, p4, q4, rfl, rfl, rfl, h4, r4⟩ := trodAll_cons r3
  obtain ⟨v5, vs5, d5, ds5, p5, q5, rfl, rfl, rfl, h5, r5⟩ := trodAll_cons r4
  obtain ⟨v6, vs6, d6, ds6, p6, q6, rfl, rfl, rfl, h6, r6⟩ := trodAll_cons r5
  obtain ⟨rfl, rfl, rfl⟩ := trodAll_nil r6
  obtain rfl : args = #[v0, v1, v2, v3, v4, v5, v6] := by cases args; simp_all
  obtain ⟨rfl, rfl⟩ := trodVars_none hV
  obtain ⟨a0, g0, e0⟩ := rd_arg (rd_int Try.underlying3) (mk_int Try.underlying3 (hval 0 3 v0 rfl rfl)) h0
  obtain ⟨a1, g1, e1⟩ := rd_arg (rd_int Try.underlying3) (mk_int Try.underlying3 (hval 1 3 v1 rfl rfl)) h1
  obtain ⟨a2, g2, e2⟩ := rd_arg (rd_int Try.underlying3) (mk_int Try.underlying3 (hval 2 3 v2 rfl rfl)) h2
  obtain ⟨a3, g3, e3⟩ := rd_arg (rd_int Try.underlying3) (mk_int Try.underlying3 (hval 3 3 v3 rfl rfl)) h3
  obtain ⟨a4, g4, e4⟩ := rd_arg (rd_int Try.underlying3) (mk_int Try.underlying3 (hval 4 3 v4 rfl rfl)) h4
  obtain ⟨a5, g5, e5⟩ := rd_arg (rd_slice Try.underlying28 (show Try.prog.cellsOf 40 = 2 by kernel_rfl) (by decide) (fun h => by cases h) (rdc_agg (rdl_map (enc' := (fun f : Fl => [aInt f.1, aInts f.2])) (good' := (fun _ => True)) (fun p => (p.1, p.2.1)) (rdl_struct Try.underlying40 (show Try.prog.cellsOf 40 = 2 by kernel_rfl) (rdf_cons rfl (show Try.prog.cellsOf 3 = 1 by kernel_rfl) (rdl_one (rd_int Try.underlying3)) (rdf_cons rfl (show Try.prog.cellsOf 29 = 1 by kernel_rfl) (rdl_one (rd_slice Try.underlying29 (show Try.prog.cellsOf 3 = 1 by kernel_rfl) (by decide) (fun _ => rfl) (rd_int Try.underlying3))) rdf_nil))) (fun _ => rfl) (fun _ _ => trivial)))) (mk_slice Try.underlying28 (hval 5 28 v5 rfl rfl)) h5
  obtain ⟨a6, g6, e6⟩ := rd_arg (rd_slice Try.underlying29 (show Try.prog.cellsOf 3 = 1 by kernel_rfl) (by decide) (fun _ => rfl) (rd_int Try.underlying3)) (mk_slice Try.underlying29 (hval 6 29 v6 rfl rfl)) h6
  refine (law_walk (vs := [v0, v1, v2, v3, v4, v5, v6]) (RegenerateFlows_ok a0 a1 a2 a3 a4 a5 a6 trivial) (HoldsAll.cons e0 (HoldsAll.cons e1 (HoldsAll.cons e2 (HoldsAll.cons e3 (HoldsAll.cons e4 (HoldsAll.cons e5 (HoldsAll.cons e6 (HoldsAll.nil _ _))))))))).mono fun e W' ⟨he, hg⟩ => ?_
  subst he
  exact ⟨_, rfl, law_post laidOut (fun t ht => of_params t ht) rfl Try.underlying4 rfl hW' rfl rfl rfl hg⟩

theorem over : Rows.regenerateFlowsRow.holds Try.pinned (OpenSpec.ofChange Rows.regenerateFlowsSpec) :=
  OpenClaim.holds_of_wide 5 Try.f5 rfl rfl rfl rfl rfl rfl rfl ⟨rfl, rfl, rfl, rfl, rfl⟩ rfl rfl rfl rfl rfl (by kernel_rfl) Try.func5 (by kernel_rfl)
    (of_decide_eq_true (by kernel_rfl)) (by unfold Func.isWrapper; first | (rw [if_pos (by decide +kernel)]; kernel_rfl) | (rw [if_neg (by decide +kernel)]; exact ⟨rfl, rfl⟩))
    (fun os started H enc _ => lifted os started H enc)
theorem proved : Rows.RegenerateFlowsSaid :=
  over
#print axioms proved
end Go.Proofs.Ytaipghchkamajaa.regenerateFlows
