/-
  CosetNumbers: for every input the law returns true, and each argument reads as it did. No condition.
-/
import Derived.Test.YtcilbmggiahciaaGreatRows
import Derived.Test.YtcilbmggiahciaaGreatCwLib
import Derived.Test.YtcilbmggiahciaaGreatCxLib
import Derived.Test.YtcilbmggiahciaaGreatZTab
import Derived.Test.YtcilbmggiahciaaGreatPlainJ1
import Derived.Test.YtcilbmggiahciaaGreatPlainJ2
import Derived.Test.YtcilbmggiahciaaGreatCyLib
import Derived.Test.YtcilbmggiahciaaGreatCzLib
import Derived.Test.YtcilbmggiahciaaGreatCgLib
import Derived.Test.YtcilbmggiahciaaGreatChLib
import Derived.Test.YtcilbmggiahciaaGreatCiLib
import Derived.Test.YtcilbmggiahciaaGreatCjLib
import Derived.Test.YtcilbmggiahciaaGreatCkLib
import Derived.Test.YtcilbmggiahciaaGreatZ4
import Derived.Test.YtcilbmggiahciaaGreatZ5
import Derived.Test.YtcilbmggiahciaaGreatZ6
import Derived.Test.YtcilbmggiahciaaGreatZ9
import Derived.Test.YtcilbmggiahciaaGreatPlainG
import Derived.Test.YtcilbmggiahciaaGreatZ1
import Derived.Test.YtcilbmggiahciaaGreatZ10
import Derived.Test.YtcilbmggiahciaaGreatZ11
import Derived.Test.YtcilbmggiahciaaGreatZ12
import Derived.Test.YtcilbmggiahciaaGreatZ13
import Derived.Test.YtcilbmggiahciaaGreatZ14
import Derived.Test.YtcilbmggiahciaaGreatZ15
import Derived.Test.YtcilbmggiahciaaGreatZ18
import Derived.Test.YtcilbmggiahciaaGreatZ19
import Derived.Test.YtcilbmggiahciaaGreatZ20
import Derived.Test.YtcilbmggiahciaaGreatZ31
import Derived.Test.YtcilbmggiahciaaGreatZ32
import Derived.Test.YtcilbmggiahciaaGreatZ33
import Derived.Test.YtcilbmggiahciaaGreatZ34
import Derived.Test.YtcilbmggiahciaaGreatZ35
import Derived.Test.YtcilbmggiahciaaGreatZ36
import Derived.Test.YtcilbmggiahciaaGreatZ37
import Derived.Test.YtcilbmggiahciaaGreatZ38
import Derived.Test.YtcilbmggiahciaaGreatZ39
import Derived.Test.YtcilbmggiahciaaGreatZ41
import Derived.Test.YtcilbmggiahciaaGreatZ42
import Derived.Test.YtcilbmggiahciaaGreatZ43
import Derived.Test.YtcilbmggiahciaaGreatZ44
import Derived.Test.YtcilbmggiahciaaGreatZ45
import Derived.Test.YtcilbmggiahciaaGreatZ46
import Derived.Test.YtcilbmggiahciaaGreatZ47
import Derived.Test.YtcilbmggiahciaaGreatZ48
import Derived.Test.YtcilbmggiahciaaGreatZ49
import Derived.Test.YtcilbmggiahciaaGreatZ50
import Derived.Test.YtcilbmggiahciaaGreatZ54
import Derived.Test.YtcilbmggiahciaaGreatZ55
import Derived.Test.YtcilbmggiahciaaGreatZ56
import Derived.Test.YtcilbmggiahciaaGreatZ57
import Derived.WalkKit
import Derived.ProofKit
import Derived.OpenShut
namespace Go.Proofs.YtcilbmggiahciaaGreat.cosetNumbers
open Go.ChangeShapes Go.WideShapes Go.ChangeAt Go.RowKit Go.Cw
set_option linter.unusedVariables false
theorem own:ownKnob Tryz.prog.godebug=none:=by kernel_rfl
theorem laidOut:laidOutB Tryz.prog=true:=by kernel_rfl
theorem of_params:∀t∈Tryz.f6.params.toList,Tryz.prog.readableRec t=true/\t<Tryz.prog.types.size:=by
  have h:(Tryz.f6.params.toList.all fun t=>Tryz.prog.readableRec t && decide (t<Tryz.prog.types.size))=true:=by kernel_rfl
  intro t ht
  have:=List.all_eq_true.1 h t ht
  simpa using this
set_option maxRecDepth 100000 in
theorem lifted (os : Os) (started : os.Started) (H : Type) (enc : TypeId × Value -> H) :
    ReturnsInHanded {} Tryz.checked os 6 .any (Rows.cosetNumbersSpec.pre6 enc Tryz.prog Tryz.f6 Rows.cosetNumbersRow.domain false) (Rows.cosetNumbersSpec.post enc Tryz.prog Tryz.f6 false true false false):=by
  refine returnsInHanded_of_change (C:=Tryz.checked) own started (by kernel_rfl) Tryz.func6
    (ChangeSpec.witness6 (enc:=enc) (C:=Tryz.checked) false ⟨#[],#[.agg #[.int .i64 0,.int .i64 0,.slice none 0 0,.int .i64 0,.slice none 0 0,.slice none 0 0,.slice none 0 0,.slice none 0 0,.int .i64 0]],[]⟩ 8 (by kernel_rfl) (by kernel_rfl) (by kernel_rfl) (by kernel_rfl)) ?_
  intro W base args ds gs before hval0 hW hcnd _
  have hval:∀(j:Nat) t v,Tryz.f6.params[j]? = some t->args[j]? = some v->Value.okWide Tryz.prog W .any base t v:=hval0
  have hW':=hW
  obtain ⟨p,q,hA0,hV,rfl,hfz,hnd⟩:=hW
  have hA:DataW.TrodAll enc Tryz.prog W 0 (fun _=>true) true Tryz.f6.params.toList args.toList ds p:=hA0
  rw [Tryz.params6] at hA hval
  obtain ⟨v0,vs0,d0,ds0,p0,q0,hargs,rfl,rfl,h0,r0⟩:=trodAll_cons hA
  obtain ⟨rfl,rfl,rfl⟩:=trodAll_nil r0
  obtain rfl:args = #[v0]:=by cases args;simp_all
  obtain ⟨rfl,rfl⟩:=trodVars_none hV
  obtain ⟨a0,g0,e0⟩:=rd_arg (rdc_agg (rdl_map (enc':=(fun q:Clm=>[aInt q.C.F.P,aInt q.C.F.M,aInts q.C.F.mod,aInt q.C.N,aRows q.C.Gen,aSl 3 true aLab q.L,aInts q.Y,aInts q.M,aInt q.S])) (good':=(fun q=>(∀t∈q.L,In64 t.1)/\In64 q.S)) (fun p=>⟨p.1,p.2.1,p.2.2.1,p.2.2.2.1,p.2.2.2.2.1⟩) (rdl_struct Tryz.underlying30 (show Tryz.prog.cellsOf 30=9 by kernel_rfl) (rdf_cons rfl (show Tryz.prog.cellsOf 27=5 by kernel_rfl) (rdl_map (enc':=(fun c:Cod=>[aInt c.F.P,aInt c.F.M,aInts c.F.mod,aInt c.N,aRows c.Gen])) (good':=(fun _=>True)) (fun p=>⟨p.1,p.2.1,p.2.2.1⟩) (rdl_struct Tryz.underlying27 (show Tryz.prog.cellsOf 27=5 by kernel_rfl) (rdf_cons rfl (show Tryz.prog.cellsOf 24=3 by kernel_rfl) (rdl_map (enc':=(fun f:Fld=>[aInt f.P,aInt f.M,aInts f.mod])) (good':=(fun _=>True)) (fun p=>⟨p.1,p.2.1,p.2.2.1⟩) (rdl_struct Tryz.underlying24 (show Tryz.prog.cellsOf 24=3 by kernel_rfl) (rdf_cons rfl (show Tryz.prog.cellsOf 3=1 by kernel_rfl) (rdl_one (rd_int Tryz.underlying3)) (rdf_cons rfl (show Tryz.prog.cellsOf 3=1 by kernel_rfl) (rdl_one (rd_int Tryz.underlying3)) (rdf_cons rfl (show Tryz.prog.cellsOf 22=1 by kernel_rfl) (rdl_one (rd_slice Tryz.underlying22 (show Tryz.prog.cellsOf 3=1 by kernel_rfl) (by decide) (fun _=>rfl) (rd_int Tryz.underlying3))) rdf_nil)))) (fun _=>rfl) (fun _ _=>trivial)) (rdf_cons rfl (show Tryz.prog.cellsOf 3=1 by kernel_rfl) (rdl_one (rd_int Tryz.underlying3)) (rdf_cons rfl (show Tryz.prog.cellsOf 25=1 by kernel_rfl) (rdl_one (rd_slice Tryz.underlying25 (show Tryz.prog.cellsOf 22=1 by kernel_rfl) (by decide) (fun _=>rfl) (rd_slice Tryz.underlying22 (show Tryz.prog.cellsOf 3=1 by kernel_rfl) (by decide) (fun _=>rfl) (rd_int Tryz.underlying3)))) rdf_nil)))) (fun _=>rfl) (fun _ _=>trivial)) (rdf_cons rfl (show Tryz.prog.cellsOf 28=1 by kernel_rfl) (rdl_one (rd_slice Tryz.underlying28 (show Tryz.prog.cellsOf 45=3 by kernel_rfl) (by decide) (fun h=>by cases h) (rdc_agg (rdl_map (enc':=(fun t:Lab=>[aInt t.1,aInt t.2.1,aInt t.2.2])) (good':=(fun t=>In64 t.1)) (fun p=>(p.1,p.2.1,p.2.2.1)) (rdl_struct Tryz.underlying45 (show Tryz.prog.cellsOf 45=3 by kernel_rfl) (rdf_cons rfl (show Tryz.prog.cellsOf 3=1 by kernel_rfl) (rdl_one (rd_int Tryz.underlying3)) (rdf_cons rfl (show Tryz.prog.cellsOf 3=1 by kernel_rfl) (rdl_one (rd_int Tryz.underlying3)) (rdf_cons rfl (show Tryz.prog.cellsOf 3=1 by kernel_rfl) (rdl_one (rd_int Tryz.underlying3)) rdf_nil)))) (fun _=>rfl) (fun _ g=>g.1))))) (rdf_cons rfl (show Tryz.prog.cellsOf 22=1 by kernel_rfl) (rdl_one (rd_slice Tryz.underlying22 (show Tryz.prog.cellsOf 3=1 by kernel_rfl) (by decide) (fun _=>rfl) (rd_int Tryz.underlying3))) (rdf_cons rfl (show Tryz.prog.cellsOf 22=1 by kernel_rfl) (rdl_one (rd_slice Tryz.underlying22 (show Tryz.prog.cellsOf 3=1 by kernel_rfl) (by decide) (fun _=>rfl) (rd_int Tryz.underlying3))) (rdf_cons rfl (show Tryz.prog.cellsOf 3=1 by kernel_rfl) (rdl_one (rd_int Tryz.underlying3)) rdf_nil)))))) (fun _=>rfl) (fun _ g=>⟨g.2.1.2,g.2.2.2.2.1⟩))) (mk_struct Tryz.underlying30 (hval 0 30 v0 rfl rfl)) h0
  refine (law_walk (vs:=[v0]) (CosetNumbers_walk a0 (fun t ht=>g0.1 t ht)) (HoldsAll.cons e0 (HoldsAll.nil _ _))).mono fun e W' ⟨he,hg⟩=>?_
  subst he
  exact ⟨_,rfl,law_post laidOut (fun t ht=>of_params t ht) rfl Tryz.underlying4 rfl hW' rfl rfl rfl hg⟩

theorem over:Rows.cosetNumbersRow.holds Tryz.pinned (OpenSpec.ofChange Rows.cosetNumbersSpec) :=
  OpenClaim.holds_of_wide 6 Tryz.f6 rfl rfl rfl rfl rfl rfl rfl ⟨rfl,rfl,rfl,rfl,rfl⟩ rfl rfl rfl rfl rfl (by kernel_rfl) Tryz.func6 (by kernel_rfl)
    (of_decide_eq_true (by kernel_rfl)) (by unfold Func.isWrapper;first | (rw [if_pos (by decide +kernel)];kernel_rfl) | (rw [if_neg (by decide +kernel)];exact ⟨rfl,rfl⟩))
    (fun os started H enc _=>lifted os started H enc)
theorem proved:Rows.CosetNumbersSaid :=
  over
#print axioms proved
end Go.Proofs.YtcilbmggiahciaaGreat.cosetNumbers
