/-
  RegenerateReconstructs: for every input the law returns true, and each argument reads as it did. No condition.
-/
import Derived.Test.YtaipghchkamajaaRows
import Derived.Test.YtaipghchkamajaaCwLib
import Derived.Test.YtaipghchkamajaaCxLib
import Derived.Test.YtaipghchkamajaaTab
import Derived.Test.YtaipghchkamajaaPlainJ1
import Derived.Test.YtaipghchkamajaaPlainJ2
import Derived.Test.YtaipghchkamajaaCyLib
import Derived.Test.YtaipghchkamajaaCzLib
import Derived.Test.YtaipghchkamajaaCgLib
import Derived.Test.YtaipghchkamajaaChLib
import Derived.Test.YtaipghchkamajaaCiLib
import Derived.Test.YtaipghchkamajaaCjLib
import Derived.Test.YtaipghchkamajaaClLib
import Derived.Test.YtaipghchkamajaaA2
import Derived.Test.YtaipghchkamajaaA4
import Derived.Test.YtaipghchkamajaaA5
import Derived.Test.YtaipghchkamajaaA6
import Derived.Test.YtaipghchkamajaaA7
import Derived.Test.YtaipghchkamajaaA9
import Derived.Test.YtaipghchkamajaaA10
import Derived.Test.YtaipghchkamajaaB1
import Derived.Test.YtaipghchkamajaaC11
import Derived.Test.YtaipghchkamajaaC12
import Derived.Test.YtaipghchkamajaaC13
import Derived.Test.YtaipghchkamajaaC14
import Derived.Test.YtaipghchkamajaaC16
import Derived.Test.YtaipghchkamajaaC18
import Derived.Test.YtaipghchkamajaaC19
import Derived.Test.YtaipghchkamajaaC22
import Derived.Test.YtaipghchkamajaaB2
import Derived.Test.YtaipghchkamajaaR1
import Derived.Test.YtaipghchkamajaaR3
import Derived.Test.YtaipghchkamajaaR4
import Derived.Test.YtaipghchkamajaaR5
import Derived.Test.YtaipghchkamajaaS1
import Derived.Test.YtaipghchkamajaaS2
import Derived.Test.YtaipghchkamajaaS3
import Derived.Test.YtaipghchkamajaaS4
import Derived.Test.YtaipghchkamajaaS5
import Derived.Test.YtaipghchkamajaaS6
import Derived.Test.YtaipghchkamajaaS7
import Derived.Test.YtaipghchkamajaaS8
import Derived.Test.YtaipghchkamajaaS9
import Derived.Test.YtaipghchkamajaaS10
import Derived.Test.YtaipghchkamajaaS11
import Derived.Test.YtaipghchkamajaaS12
import Derived.Test.YtaipghchkamajaaS13
import Derived.Test.YtaipghchkamajaaS14
import Derived.WalkKit
import Derived.ProofKit
import Derived.OpenShut
namespace Go.Proofs.Ytaipghchkamajaa.regenerateReconstructs
open Go.ChangeShapes Go.WideShapes Go.ChangeAt Go.RowKit Go.Cw
set_option linter.unusedVariables false
theorem own:ownKnob Try.prog.godebug=none:=by kernel_rfl
theorem laidOut:laidOutB Try.prog=true:=by kernel_rfl
theorem of_params:∀t∈Try.f14.params.toList,Try.prog.readableRec t=true/\t<Try.prog.types.size:=by
  have h:(Try.f14.params.toList.all fun t=>Try.prog.readableRec t && decide (t<Try.prog.types.size))=true:=by kernel_rfl
  intro t ht
  have:=List.all_eq_true.1 h t ht
  simpa using this
set_option maxRecDepth 100000 in
theorem lifted (os : Os) (started : os.Started) (H : Type) (enc : TypeId × Value -> H) :
    ReturnsInHanded {} Try.checked os 14 .any (Rows.regenerateReconstructsSpec.pre6 enc Try.prog Try.f14 Rows.regenerateReconstructsRow.domain false) (Rows.regenerateReconstructsSpec.post enc Try.prog Try.f14 false true false false):=by
  refine returnsInHanded_of_change (C:=Try.checked) own started (by kernel_rfl) Try.func14
    (ChangeSpec.witness6 (enc:=enc) (C:=Try.checked) false ⟨#[],#[.agg #[.int .i64 0,.int .i64 0,.slice none 0 0,.int .i64 0,.int .i64 0,.int .i64 0,.slice none 0 0],.slice none 0 0,.slice none 0 0],[]⟩ 8 (by kernel_rfl) (by kernel_rfl) (by kernel_rfl) (by kernel_rfl)) ?_
  intro W base args ds gs before hval0 hW hcnd _
  have hval:∀(j:Nat) t v,Try.f14.params[j]? = some t->args[j]? = some v->Value.okWide Try.prog W .any base t v:=hval0
  have hW':=hW
  obtain ⟨p,q,hA0,hV,rfl,hfz,hnd⟩:=hW
  have hA:DataW.TrodAll enc Try.prog W 0 (fun _=>true) true Try.f14.params.toList args.toList ds p:=hA0
  rw [Try.params14] at hA hval
  obtain ⟨v0,vs0,d0,ds0,p0,q0,hargs,rfl,rfl,h0,r0⟩:=trodAll_cons hA
  obtain ⟨v1,vs1,d1,ds1,p1,q1,rfl,rfl,rfl,h1,r1⟩:=trodAll_cons r0
  obtain ⟨v2,vs2,d2,ds2,p2,q2,rfl,rfl,rfl,h2,r2⟩:=trodAll_cons r1
  obtain ⟨rfl,rfl,rfl⟩:=trodAll_nil r2
  obtain rfl:args = #[v0,v1,v2]:=by cases args;simp_all
  obtain ⟨rfl,rfl⟩:=trodVars_none hV
  obtain ⟨a0,g0,e0⟩:=rd_arg (rdc_agg (rdl_map (enc':=(fun r:Rgn=>[aInt r.F.P,aInt r.F.M,aInts r.F.mod,aInt r.Kind,aInt r.K,aInt r.D,aInts r.Points])) (good':=(fun r=>In64 r.K/\In64 r.D)) (fun p=>⟨p.1,p.2.1,p.2.2.1,p.2.2.2.1,p.2.2.2.2.1⟩) (rdl_struct Try.underlying53 (show Try.prog.cellsOf 53=7 by kernel_rfl) (D_t rfl (show Try.prog.cellsOf 51=3 by kernel_rfl) (rdl_map (enc':=(fun f:Fld=>[aInt f.P,aInt f.M,aInts f.mod])) (good':=(fun _=>True)) (fun p=>⟨p.1,p.2.1,p.2.2.1⟩) (rdl_struct Try.underlying51 (show Try.prog.cellsOf 51=3 by kernel_rfl) (D_t rfl (show Try.prog.cellsOf 3=1 by kernel_rfl) (F_M (F_h Try.underlying3)) (D_t rfl (show Try.prog.cellsOf 3=1 by kernel_rfl) (F_M (F_h Try.underlying3)) (D_t rfl (show Try.prog.cellsOf 29=1 by kernel_rfl) (F_M (F_g Try.underlying29 (show Try.prog.cellsOf 3=1 by kernel_rfl) (by decide) (fun _=>rfl) (F_h Try.underlying3))) rdf_nil)))) (fun _=>rfl) (fun _ _=>trivial)) (D_t rfl (show Try.prog.cellsOf 3=1 by kernel_rfl) (F_M (F_h Try.underlying3)) (D_t rfl (show Try.prog.cellsOf 3=1 by kernel_rfl) (F_M (F_h Try.underlying3)) (D_t rfl (show Try.prog.cellsOf 3=1 by kernel_rfl) (F_M (F_h Try.underlying3)) (D_t rfl (show Try.prog.cellsOf 29=1 by kernel_rfl) (F_M (F_g Try.underlying29 (show Try.prog.cellsOf 3=1 by kernel_rfl) (by decide) (fun _=>rfl) (F_h Try.underlying3))) rdf_nil)))))) (fun _=>rfl) (fun _ h=>⟨h.2.2.1,h.2.2.2.1⟩))) (mk_struct Try.underlying53 (hval 0 53 v0 rfl rfl)) h0
  obtain ⟨a1,g1,e1⟩:=rd_arg (F_g Try.underlying29 (show Try.prog.cellsOf 3=1 by kernel_rfl) (by decide) (fun _=>rfl) (F_h Try.underlying3)) (mk_slice Try.underlying29 (hval 1 29 v1 rfl rfl)) h1
  obtain ⟨a2,g2,e2⟩:=rd_arg (F_g Try.underlying65 (show Try.prog.cellsOf 29=1 by kernel_rfl) (by decide) (fun _=>rfl) (F_g Try.underlying29 (show Try.prog.cellsOf 3=1 by kernel_rfl) (by decide) (fun _=>rfl) (F_h Try.underlying3))) (mk_slice Try.underlying65 (hval 2 65 v2 rfl rfl)) h2
  refine (law_walk (vs:=[v0,v1,v2]) (D_6 a0 a1 a2 g0.1.1 g0.1.2 g0.2.1 g0.2.2) (HoldsAll.cons e0 (HoldsAll.cons e1 (HoldsAll.cons e2 (HoldsAll.nil _ _))))).mono fun e W' ⟨he,hg⟩=>?_
  subst he
  exact ⟨_,rfl,law_post laidOut (fun t ht=>of_params t ht) rfl Try.underlying4 rfl hW' rfl rfl rfl hg⟩

theorem over:Rows.regenerateReconstructsRow.holds Try.pinned (OpenSpec.ofChange Rows.regenerateReconstructsSpec) :=
  OpenClaim.holds_of_wide 14 Try.f14 rfl rfl rfl rfl rfl rfl rfl ⟨rfl,rfl,rfl,rfl,rfl⟩ rfl rfl rfl rfl rfl (by kernel_rfl) Try.func14 (by kernel_rfl)
    (of_decide_eq_true (by kernel_rfl)) (by unfold Func.isWrapper;first | (rw [i_P (by decide +kernel)];kernel_rfl) | (rw [i_N (by decide +kernel)];exact ⟨rfl,rfl⟩))
    (fun os started H enc _=>lifted os started H enc)
theorem proved:Rows.RegenerateReconstructsSaid :=
  over
#print axioms proved
end Go.Proofs.Ytaipghchkamajaa.regenerateReconstructs
