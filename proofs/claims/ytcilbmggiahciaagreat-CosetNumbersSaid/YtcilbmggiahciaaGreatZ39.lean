/-
  Walks of functions of the program and the reference.
-/
import Derived.Test.YtcilbmggiahciaaGreatZ38
open Go Go.Cw
namespace Go.Proofs.YtcilbmggiahciaaGreat
open Tryz
set_option maxRecDepth 100000
set_option linter.unusedVariables false
set_option linter.unusedSimpArgs false
theorem rChk28_ok (c:Cod) (ls:List Lab)  : Ctr Tryz.prog 12 [aCod c,aSl 3 true aLab ls] (aInt (chkL c ls)):=by
 refine A_p Tryz.call12 func12 rfl rfl ?_
 intro w O
 refine A_Y 0 2 rfl rfl (fun hlen0_2=>?_)
 refine A_Y 0 4 rfl rfl (fun hlen0_4=>?_)
 refine A_x 1 rfl (fun hlen1=>?_)
 refine esr rfl fun _ K1=>?_
 refine A_h rfl rfl (AllOne.mem ⟨(A_F _),(A_F _),A_c,(A_F _),A_c,trivial⟩) (fun b2_1=>?_)
 refine emm rfl ?_
 refine enk K1 ?_
 refine esr rfl fun _ K2=>?_
 refine A_A rfl (A_P (k:=0) ti27 rfl rfl rfl) ?_
 refine A_A rfl (A_S (rCount28_ok c) rfl) ?_
 refine emm rfl ?_
 refine A_A rfl (A_Q rfl rfl) ?_
 refine A_A rfl (A_Q rfl rfl) ?_
 refine emm rfl ?_
 refine enk K2 ?_
 refine A_C fun _ K3=>?_
 refine esr rfl fun _ K4=>?_
 refine A_A rfl (A_y rfl rfl) ?_
 refine enk K4 ?_
 refine A_E rfl (fun h13=>?_) (fun h13=>?_)
 ·refine esk rfl ?_
  refine A_R ?_
  exact retR1 (.inr rfl) results12 (A_H (A_T rfl (A_a (by exact (chkL_cs h13).symm))))
 refine esp K3 ?_
 refine A_C fun _ K6=>?_
 refine esr rfl fun _ K7=>?_
 refine A_A rfl (A_P (k:=0) ti27 rfl rfl rfl) ?_
 refine emm rfl ?_
 refine A_A rfl (A_S (rProves_ok c ls (Classical.not_not.1 h13)) rfl) ?_
 refine A_A rfl (ok_notD rfl) ?_
 refine enk K7 ?_
 refine A_E rfl (fun h18=>?_) (fun h18=>?_)
 ·refine esk rfl ?_
  refine A_R ?_
  exact retR1 (.inr rfl) results12 (A_H (A_T rfl (A_a (by exact (chkL_no (Classical.not_not.1 h13) h18).symm))))
 refine esp K6 ?_
 refine esk rfl ?_
 refine A_R ?_
 exact retR1 (.inr rfl) results12 (A_H (A_T rfl (A_a (by exact (chkL_yes (Classical.not_not.1 h13) (Classical.not_not.1 h18)).symm))))
end Go.Proofs.YtcilbmggiahciaaGreat

