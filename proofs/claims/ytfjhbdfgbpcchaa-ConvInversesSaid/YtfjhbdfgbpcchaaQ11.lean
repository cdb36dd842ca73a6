/-
  Walks of functions of the program and the reference.
-/
import Derived.Test.YtfjhbdfgbpcchaaQ10
open Go Go.Cw
namespace Go.Proofs.Ytfjhbdfgbpcchaa
open Try
set_option maxRecDepth 100000
set_option linter.unusedVariables false
set_option linter.unusedSimpArgs false

theorem Basic_ok (c : Cnv) (hFew : c.Few) (hs : c.Ok → c.k ≤ 3 ∧ c.n ≤ 6) (hOk : c.Ok) : Ctr Try.prog 45 [aCnv c] (aTup [aBool (decide (c.minL.length = 1)), aInt 0]) := by
 refine ctr_of Try.call45 func45 rfl rfl ?_
 intro w O
 refine ent_lenC 0 2 rfl rfl (fun hlen0_2 => ?_)
 refine ent_lenC 0 3 rfl rfl (fun hlen0_3 => ?_)
 refine esr rfl fun _ K1 => ?_
 refine ent_boxS rfl rfl (AllOne.mem ⟨(one_int _), (one_int _), one_sl, one_sl, trivial⟩) (fun b1_1 => ?_)
 refine emm rfl ?_
 refine enk K1 ?_
 refine esr rfl fun _ K2 => ?_
 refine ent_o rfl (ok_loadBS (k := 0) ti27 rfl rfl rfl) ?_
 refine ent_o rfl (ok_call (build_ok c ‹_› hOk) rfl) ?_
 refine emm rfl ?_
 refine ent_o rfl (ok_extract rfl rfl) ?_
 refine ent_o rfl (ok_extract rfl rfl) ?_
 refine emm rfl ?_
 refine enk K2 ?_
 refine ent_seq fun _ K3 => ?_
 refine esr rfl fun _ K4 => ?_
 refine ent_o rfl (ok_neq rfl rfl) ?_
 refine enk K4 ?_
 refine ent_condFP rfl (by decide) ?_
 refine esp K3 ?_
 refine esr rfl fun _ K5 => ?_
 refine ent_o rfl (ok_call (minors_ok c ‹_› hOk hOk.fld (hs hOk).1 (hs hOk).2) rfl) ?_
 refine ent_o rfl (ok_len rfl runUnderlying22 rfl) ?_
 refine ent_o rfl (ok_eql rfl rfl) ?_
 refine emm rfl ?_
 refine enk K5 ?_
 refine ent_ret ?_
 exact retR2 (.inr rfl) results45 (resr_tmp (res_cv rfl (cv_bool (by exact decide_eq_decide.2 ⟨fun h => by omega, fun h => by omega⟩)))) (resr_tmp (res_cv rfl (cv_int rfl)))

end Go.Proofs.Ytfjhbdfgbpcchaa

