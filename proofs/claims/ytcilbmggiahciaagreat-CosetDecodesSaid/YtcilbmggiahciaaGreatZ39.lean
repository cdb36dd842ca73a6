/-
  Walks of functions of the program and the reference.
-/
import Derived.Test.YtcilbmggiahciaaGreatZ38
open Go Go.Cw
namespace Go.Proofs.YtcilbmggiahciaaGreat
open Tryz
set_option maxRecDepth 100000
set_option linter.unusedVariables false
set_option linter.unusedSimpArgs false
theorem rChk28_ok (c : Cod) (ls : List Lab)  : Ctr Tryz.prog 12 [aCod c, aSl 3 true aLab ls] (aInt (chkL c ls)) := by
 refine ctr_of Tryz.call12 func12 rfl rfl ?_
 intro w O
 refine ent_lenC 0 2 rfl rfl (fun hlen0_2 => ?_)
 refine ent_lenC 0 4 rfl rfl (fun hlen0_4 => ?_)
 refine ent_len 1 rfl (fun hlen1 => ?_)
 refine esr rfl fun _ K1 => ?_
 refine ent_boxS rfl rfl (AllOne.mem ⟨(one_int _), (one_int _), one_sl, (one_int _), one_sl, trivial⟩) (fun b2_1 => ?_)
 refine emm rfl ?_
 refine enk K1 ?_
 refine esr rfl fun _ K2 => ?_
 refine ent_o rfl (ok_loadBS (k := 0) ti27 rfl rfl rfl) ?_
 refine ent_o rfl (ok_call (rCount28_ok c) rfl) ?_
 refine emm rfl ?_
 refine ent_o rfl (ok_extract rfl rfl) ?_
 refine ent_o rfl (ok_extract rfl rfl) ?_
 refine emm rfl ?_
 refine enk K2 ?_
 refine ent_seq fun _ K3 => ?_
 refine esr rfl fun _ K4 => ?_
 refine ent_o rfl (ok_neq rfl rfl) ?_
 refine enk K4 ?_
 refine ent_condD rfl (fun h13 => ?_) (fun h13 => ?_)
 ·refine esk rfl ?_
  refine ent_ret ?_
  exact retR1 (.inr rfl) results12 (resr_tmp (res_cv rfl (cv_int (by exact (chkL_cs h13).symm))))
 refine esp K3 ?_
 refine ent_seq fun _ K6 => ?_
 refine esr rfl fun _ K7 => ?_
 refine ent_o rfl (ok_loadBS (k := 0) ti27 rfl rfl rfl) ?_
 refine emm rfl ?_
 refine ent_o rfl (ok_call (rProves_ok c ls (Classical.not_not.1 h13)) rfl) ?_
 refine ent_o rfl (ok_notD rfl) ?_
 refine enk K7 ?_
 refine ent_condD rfl (fun h18 => ?_) (fun h18 => ?_)
 ·refine esk rfl ?_
  refine ent_ret ?_
  exact retR1 (.inr rfl) results12 (resr_tmp (res_cv rfl (cv_int (by exact (chkL_no (Classical.not_not.1 h13) h18).symm))))
 refine esp K6 ?_
 refine esk rfl ?_
 refine ent_ret ?_
 exact retR1 (.inr rfl) results12 (resr_tmp (res_cv rfl (cv_int (by exact (chkL_yes (Classical.not_not.1 h13) (Classical.not_not.1 h18)).symm))))
end Go.Proofs.YtcilbmggiahciaaGreat

