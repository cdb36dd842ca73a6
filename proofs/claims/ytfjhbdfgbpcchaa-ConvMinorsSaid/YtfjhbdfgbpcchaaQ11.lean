/-
  Walks of functions of the program and the reference.
-/
import Derived.Test.YtfjhbdfgbpcchaaQ10
open Go Go.Cw
namespace Go.Proofs.Ytfjhbdfgbpcchaa
open Try
set_option maxRecDepth 100000
set_option linter.unusedVariables false
set_option linter.unusedSimpArgs false
theorem Minors_ok (c : Cnv) (hFew : c.Few) (hs : c.Ok → c.k ≤ 3 ∧ c.n ≤ 6) : Ctr Try.prog 39 [aCnv c] (aTup [aSl 1 false aInt c.minL, aInt c.err]) := by
 refine ctr_of Try.call39 func39 rfl rfl ?_
 intro w O
 refine ent_lenC 0 2 rfl rfl (fun hlen0_2 => ?_)
 refine ent_lenC 0 3 rfl rfl (fun hlen0_3 => ?_)
 refine esr rfl fun _ K1 => ?_
 refine ent_boxS rfl rfl (AllOne.mem ⟨(one_int _), (one_int _), one_sl, one_sl, trivial⟩) (fun b1_1 => ?_)
 refine emm rfl ?_
 refine enk K1 ?_
 refine esr rfl fun _ K2 => ?_
 refine ent_o rfl (ok_loadBS (k := 0) ti27 rfl rfl rfl) ?_
 rcases Classical.em (c.Ok) with hOk | hOk
 ·refine ent_o rfl (ok_call (build_ok c ‹_› hOk) rfl) ?_
  refine emm rfl ?_
  refine ent_o rfl (ok_extract rfl rfl) ?_
  refine ent_o rfl (ok_extract rfl rfl) ?_
  refine emm rfl ?_
  refine enk K2 ?_
  refine ent_seq fun _ K3 => ?_
  refine esr rfl fun _ K4 => ?_
  refine ent_o rfl (ok_neq rfl rfl) ?_
  refine enk K4 ?_
  refine ent_condFP rfl (by decide) ?_
  refine esp K3 ?_
  refine esr rfl fun _ K5 => ?_
  refine ent_o rfl (ok_call (minors_ok c ‹_› hOk hOk.fld (hs hOk).1 (hs hOk).2) rfl) ?_
  refine emm rfl ?_
  refine enk K5 ?_
  refine ent_ret ?_
  exact retR2 (.inr rfl) results39 (resr_tmp (res_cv rfl (cv_sl sub_x rfl))) (resr_tmp (res_cv rfl (cv_int (by exact (Cnv.err_zero.2 hOk).symm))))
 refine ent_o rfl (ok_call (build_no c ‹_› hOk) rfl) ?_
 refine emm rfl ?_
 refine ent_o rfl (ok_extract rfl rfl) ?_
 refine ent_o rfl (ok_extract rfl rfl) ?_
 refine emm rfl ?_
 refine enk K2 ?_
 refine ent_seq fun _ K6 => ?_
 refine esr rfl fun _ K7 => ?_
 refine ent_o rfl (ok_neq rfl rfl) ?_
 refine enk K7 ?_
 refine ent_condD rfl (fun h12 => ?_) (fun h12 => ?_)
 ·refine esk rfl ?_
  refine ent_ret ?_
  exact retR2 (.inr rfl) results39 (resr_tmp (res_cv rfl (cv_nil (fun _ => rfl) (by exact (Cnv.minL_no hOk).symm)))) (resr_tmp (res_cv rfl (cv_int rfl)))
 exact absurd (Cnv.err_zero.1 (Classical.not_not.1 h12)) hOk

end Go.Proofs.Ytfjhbdfgbpcchaa

