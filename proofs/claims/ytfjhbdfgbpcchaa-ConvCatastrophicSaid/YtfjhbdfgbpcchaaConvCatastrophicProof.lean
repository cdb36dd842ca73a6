/-
  ConvCatastrophic: for every input the law returns true, and each argument reads as it did. No condition.
-/
import Derived.Test.YtfjhbdfgbpcchaaRows
import Derived.Test.YtfjhbdfgbpcchaaCwLib
import Derived.Test.YtfjhbdfgbpcchaaCxLib
import Derived.Test.YtfjhbdfgbpcchaaPlainJ1
import Derived.Test.YtfjhbdfgbpcchaaPlainJ2
import Derived.Test.YtfjhbdfgbpcchaaCyLib
import Derived.Test.YtfjhbdfgbpcchaaCzLib
import Derived.Test.YtfjhbdfgbpcchaaCgLib
import Derived.Test.YtfjhbdfgbpcchaaChLib
import Derived.Test.YtfjhbdfgbpcchaaCiLib
import Derived.Test.YtfjhbdfgbpcchaaCjLib
import Derived.Test.YtfjhbdfgbpcchaaClLib
import Derived.Test.YtfjhbdfgbpcchaaCmLib
import Derived.Test.YtfjhbdfgbpcchaaVTab
import Derived.Test.YtfjhbdfgbpcchaaV4
import Derived.Test.YtfjhbdfgbpcchaaV5
import Derived.Test.YtfjhbdfgbpcchaaV6
import Derived.Test.YtfjhbdfgbpcchaaV9
import Derived.Test.YtfjhbdfgbpcchaaV10
import Derived.Test.YtfjhbdfgbpcchaaV11
import Derived.Test.YtfjhbdfgbpcchaaV12
import Derived.Test.YtfjhbdfgbpcchaaV14
import Derived.Test.YtfjhbdfgbpcchaaV15
import Derived.Test.YtfjhbdfgbpcchaaV16
import Derived.Test.YtfjhbdfgbpcchaaV17
import Derived.Test.YtfjhbdfgbpcchaaV18
import Derived.Test.YtfjhbdfgbpcchaaPlainJ3
import Derived.Test.YtfjhbdfgbpcchaaU10
import Derived.Test.YtfjhbdfgbpcchaaU11
import Derived.Test.YtfjhbdfgbpcchaaQ1
import Derived.Test.YtfjhbdfgbpcchaaQ2
import Derived.Test.YtfjhbdfgbpcchaaQ3
import Derived.Test.YtfjhbdfgbpcchaaQ4
import Derived.Test.YtfjhbdfgbpcchaaQ5
import Derived.Test.YtfjhbdfgbpcchaaQ6
import Derived.Test.YtfjhbdfgbpcchaaQ7
import Derived.Test.YtfjhbdfgbpcchaaQ8
import Derived.Test.YtfjhbdfgbpcchaaQ9
import Derived.Test.YtfjhbdfgbpcchaaQ10
import Derived.Test.YtfjhbdfgbpcchaaQ11
import Derived.Test.YtfjhbdfgbpcchaaQ12
import Derived.Test.YtfjhbdfgbpcchaaQ18
import Derived.Test.YtfjhbdfgbpcchaaQ19
import Derived.Test.YtfjhbdfgbpcchaaQ20
import Derived.Test.YtfjhbdfgbpcchaaQ21
import Derived.WalkKit
import Derived.ProofKit
import Derived.OpenShut
namespace Go.Proofs.Ytfjhbdfgbpcchaa.convCatastrophic
open Go.ChangeShapes Go.WideShapes Go.ChangeAt Go.RowKit Go.Cw
set_option linter.unusedVariables false
theorem own : ownKnob Try.prog.godebug = none := by kernel_rfl
theorem laidOut : laidOutB Try.prog = true := by kernel_rfl
theorem of_params : ∀ t ∈ Try.f10.params.toList, Try.prog.readableRec t = true ∧ t < Try.prog.types.size := by
  have h : (Try.f10.params.toList.all fun t => Try.prog.readableRec t && decide (t < Try.prog.types.size)) = true := by kernel_rfl
  intro t ht
  have := List.all_eq_true.1 h t ht
  simpa using this
set_option maxRecDepth 100000 in
theorem lifted (os : Os) (started : os.Started) (H : Type) (enc : TypeId × Value → H) :
    ReturnsInHanded {} Try.checked os 10 .any (Rows.convCatastrophicSpec.pre6 enc Try.prog Try.f10 Rows.convCatastrophicRow.domain false) (Rows.convCatastrophicSpec.post enc Try.prog Try.f10 false true false false) := by
  refine returnsInHanded_of_change (C := Try.checked) own started (by kernel_rfl) Try.func10
    (ChangeSpec.witness6 (enc := enc) (C := Try.checked) false ⟨#[], #[.agg #[.int .i64 0, .int .i64 0, .slice none 0 0, .slice none 0 0]], []⟩ 8 (by kernel_rfl) (by kernel_rfl) (by kernel_rfl) (by kernel_rfl)) ?_
  intro W base args ds gs before hval0 hW hcnd _
  have hval : ∀ (j : Nat) t v, Try.f10.params[j]? = some t → args[j]? = some v → Value.okWide Try.prog W .any base t v := hval0
  have hW' := hW
  obtain ⟨p, q, hA0, hV, rfl, hfz, hnd⟩ := hW
  have hA : DataW.TrodAll enc Try.prog W 0 (fun _ => true) true Try.f10.params.toList args.toList ds p := hA0
  rw [Try.params10] at hA hval
  obtain ⟨v0, vs0, d0, ds0, p0, q0, hargs, rfl, rfl, h0, r0⟩ := trodAll_cons hA
  obtain ⟨rfl, rfl, rfl⟩ := trodAll_nil r0
  obtain rfl : args = #[v0] := by cases args; simp_all
  obtain ⟨rfl, rfl⟩ := trodVars_none hV
  obtain ⟨a0, g0, e0⟩ := rd_arg (rdc_agg (rdl_map (enc' := (fun c : Cnv => [aInt c.F.P, aInt c.F.M, aInts c.F.mod, aSl 1 false aRows c.Gen])) (good' := (fun _ => True)) (fun p => ⟨p.1, p.2.1⟩) (rdl_struct Try.underlying27 (show Try.prog.cellsOf 27 = 4 by kernel_rfl) (rdf_cons rfl (show Try.prog.cellsOf 24 = 3 by kernel_rfl) (rdl_map (enc' := (fun f : Fld => [aInt f.P, aInt f.M, aInts f.mod])) (good' := (fun _ => True)) (fun p => ⟨p.1, p.2.1, p.2.2.1⟩) (rdl_struct Try.underlying24 (show Try.prog.cellsOf 24 = 3 by kernel_rfl) (rdf_cons rfl (show Try.prog.cellsOf 3 = 1 by kernel_rfl) (rdl_one (rd_int Try.underlying3)) (rdf_cons rfl (show Try.prog.cellsOf 3 = 1 by kernel_rfl) (rdl_one (rd_int Try.underlying3)) (rdf_cons rfl (show Try.prog.cellsOf 22 = 1 by kernel_rfl) (rdl_one (rd_slice Try.underlying22 (show Try.prog.cellsOf 3 = 1 by kernel_rfl) (by decide) (fun _ => rfl) (rd_int Try.underlying3))) rdf_nil)))) (fun _ => rfl) (fun _ _ => trivial)) (rdf_cons rfl (show Try.prog.cellsOf 25 = 1 by kernel_rfl) (rdl_one (rd_slice Try.underlying25 (show Try.prog.cellsOf 42 = 1 by kernel_rfl) (by decide) (fun _ => rfl) (rd_slice Try.underlying42 (show Try.prog.cellsOf 22 = 1 by kernel_rfl) (by decide) (fun _ => rfl) (rd_slice Try.underlying22 (show Try.prog.cellsOf 3 = 1 by kernel_rfl) (by decide) (fun _ => rfl) (rd_int Try.underlying3))))) rdf_nil))) (fun _ => rfl) (fun _ _ => trivial))) (mk_struct Try.underlying27 (hval 0 27 v0 rfl rfl)) h0
  refine (law_walk (vs := [v0]) (ConvCatastrophic_ok a0) (HoldsAll.cons e0 (HoldsAll.nil _ _))).mono fun e W' ⟨he, hg⟩ => ?_
  subst he
  exact ⟨_, rfl, law_post laidOut (fun t ht => of_params t ht) rfl Try.underlying4 rfl hW' rfl rfl rfl hg⟩

theorem over : Rows.convCatastrophicRow.holds Try.pinned (OpenSpec.ofChange Rows.convCatastrophicSpec) :=
  OpenClaim.holds_of_wide 10 Try.f10 rfl rfl rfl rfl rfl rfl rfl ⟨rfl, rfl, rfl, rfl, rfl⟩ rfl rfl rfl rfl rfl (by kernel_rfl) Try.func10 (by kernel_rfl)
    (of_decide_eq_true (by kernel_rfl)) (by unfold Func.isWrapper; first | (rw [if_pos (by decide +kernel)]; kernel_rfl) | (rw [if_neg (by decide +kernel)]; exact ⟨rfl, rfl⟩))
    (fun os started H enc _ => lifted os started H enc)
theorem proved : Rows.ConvCatastrophicSaid :=
  over
#print axioms proved
end Go.Proofs.Ytfjhbdfgbpcchaa.convCatastrophic
