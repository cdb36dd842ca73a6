/-
  Facts for the law CosetAccepts.
-/
import Derived.Test.YtcilbmggiahciaaProg
import Derived.Test.YtcilbmggiahciaaYTab
import Derived.Test.YtcilbmggiahciaaPlainJ2
import Derived.Test.YtcilbmggiahciaaCiLib
import Derived.Test.YtcilbmggiahciaaY4
import Derived.Test.YtcilbmggiahciaaY5
import Derived.Test.YtcilbmggiahciaaY6
import Derived.Test.YtcilbmggiahciaaY9
import Derived.Test.YtcilbmggiahciaaY1
import Derived.Test.YtcilbmggiahciaaY10
import Derived.Test.YtcilbmggiahciaaY11
import Derived.Test.YtcilbmggiahciaaY12
import Derived.Test.YtcilbmggiahciaaY13
import Derived.Test.YtcilbmggiahciaaY14
import Derived.Test.YtcilbmggiahciaaY15
import Derived.Test.YtcilbmggiahciaaY18
import Derived.Test.YtcilbmggiahciaaY19
import Derived.Test.YtcilbmggiahciaaY20
import Derived.Test.YtcilbmggiahciaaY31
import Derived.Test.YtcilbmggiahciaaY32
import Derived.Test.YtcilbmggiahciaaY33
import Derived.Test.YtcilbmggiahciaaY34
import Derived.Test.YtcilbmggiahciaaY35
import Derived.Test.YtcilbmggiahciaaY36
import Derived.Test.YtcilbmggiahciaaY37
import Derived.Test.YtcilbmggiahciaaY38
import Derived.Test.YtcilbmggiahciaaY39
open Go Go.Cw
namespace Go.Proofs.Ytcilbmggiahciaa
set_option maxRecDepth 100000
set_option linter.unusedVariables false
set_option linter.unusedSimpArgs false
theorem CosetAccepts_walk (c : Cod) (ls : List Lab) (h64 : ∀ t ∈ ls, -9223372036854775808 ≤ t.1 ∧ t.1 ≤ 9223372036854775807) : Ctr Try.prog 4 [aCod c, aSl 3 true aLab ls] (aBool true) := by
 refine ctr_of Try.call4 Try.func4 rfl rfl ?_
 intro w O
 refine ent_lenC 0 2 rfl rfl (fun hlen0_2 => ?_)
 refine ent_lenC 0 4 rfl rfl (fun hlen0_4 => ?_)
 refine ent_len 1 rfl (fun hlen1 => ?_)
 refine esr rfl fun _ K1 => ?_
 refine ent_boxS rfl rfl (AllOne.mem ⟨(one_int _), (one_int _), one_sl, (one_int _), one_sl, trivial⟩) (fun b2_1 => ?_)
 refine emm rfl ?_
 refine enk K1 ?_
 refine ent_seq fun _ K2 => ?_
 refine esr rfl fun _ K3 => ?_
 refine ent_o rfl (ok_loadBS (k := 0) ti27 rfl rfl rfl) ?_
 refine ent_o rfl (ok_call (small_ok c) rfl) ?_
 refine ent_o rfl (ok_notD rfl) ?_
 refine enk K3 ?_
 refine ent_condD rfl (fun h7 => ?_) (fun h7 => ?_)
 ·refine esr rfl fun _ K4 => ?_
  refine ent_o rfl (ok_call alive_ok rfl) ?_
  refine emm rfl ?_
  refine enk K4 ?_
  refine ent_ret ?_
  exact retR1 (.inr rfl) Try.results4 (resr_tmp (res_cv rfl (cv_bool (by first | rfl | (simp; done)))))
 ·refine esp K2 ?_
  refine ent_seq fun _ K5 => ?_
  refine ent_draw 11 mixed (by kernel_rfl) (by kernel_rfl) (by kernel_rfl) ?_
  refine dw_o rfl (ok_loadBS (k := 0) ti27 rfl rfl rfl) ?_
  refine dw_o rfl (ok_move rfl) ?_
  refine dw_o rfl (ok_call (cChk_ok c ls (by first | rfl | assumption | omega | (simp_all; done) | grind)) rfl) ?_
  refine dw_o rfl (ok_loadBS (k := 0) ti27 rfl rfl rfl) ?_
  refine dw_o rfl (ok_move rfl) ?_
  refine dw_o rfl (ok_call (rChk28_ok c ls) rfl) ?_
  refine dw_o rfl (ok_eql rfl rfl) ?_
  refine dw_o rfl (ok_move rfl) ?_
  refine dw_guardT rfl rfl rfl rfl (decide_eq_true rfl) ?_
  refine dw_o rfl (ok_call alive_ok rfl) ?_
  refine dw_o rfl (ok_pickT rfl (decide_eq_true rfl) rfl) ?_
  refine dw_o rfl (ok_assign rfl) ?_
  refine dw_nil ?_
  refine enk K5 ?_
  refine ent_ret ?_
  exact retR1 (.inr rfl) Try.results4 (resr_tmp (res_cv rfl (cv_bool (by first | rfl | (simp; done)))))
end Go.Proofs.Ytcilbmggiahciaa
