/-
  Facts for the law CosetProfiles.
-/
import Derived.Test.YtcilbmggiahciaaGreatProg
import Derived.Test.YtcilbmggiahciaaGreatZTab
import Derived.Test.YtcilbmggiahciaaGreatPlainJ2
import Derived.Test.YtcilbmggiahciaaGreatCiLib
import Derived.Test.YtcilbmggiahciaaGreatZ4
import Derived.Test.YtcilbmggiahciaaGreatZ5
import Derived.Test.YtcilbmggiahciaaGreatZ6
import Derived.Test.YtcilbmggiahciaaGreatZ9
import Derived.Test.YtcilbmggiahciaaGreatZ1
import Derived.Test.YtcilbmggiahciaaGreatZ10
import Derived.Test.YtcilbmggiahciaaGreatZ11
import Derived.Test.YtcilbmggiahciaaGreatZ12
import Derived.Test.YtcilbmggiahciaaGreatZ13
import Derived.Test.YtcilbmggiahciaaGreatZ14
import Derived.Test.YtcilbmggiahciaaGreatZ15
import Derived.Test.YtcilbmggiahciaaGreatZ18
import Derived.Test.YtcilbmggiahciaaGreatZ19
import Derived.Test.YtcilbmggiahciaaGreatZ20
import Derived.Test.YtcilbmggiahciaaGreatZ31
import Derived.Test.YtcilbmggiahciaaGreatZ32
import Derived.Test.YtcilbmggiahciaaGreatZ33
import Derived.Test.YtcilbmggiahciaaGreatZ34
import Derived.Test.YtcilbmggiahciaaGreatZ35
import Derived.Test.YtcilbmggiahciaaGreatZ36
import Derived.Test.YtcilbmggiahciaaGreatZ37
import Derived.Test.YtcilbmggiahciaaGreatZ38
import Derived.Test.YtcilbmggiahciaaGreatZ39
import Derived.Test.YtcilbmggiahciaaGreatZ41
open Go Go.Cw
namespace Go.Proofs.YtcilbmggiahciaaGreat
set_option maxRecDepth 100000
set_option linter.unusedVariables false
set_option linter.unusedSimpArgs false
theorem CosetProfiles_walk (q : Clm) (h64 : ∀ t ∈ q.L, -9223372036854775808 ≤ t.1 ∧ t.1 ≤ 9223372036854775807) : Ctr Tryz.prog 3 [aClm q] (aBool true) := by
 refine ctr_of Tryz.call3 Tryz.func3 rfl rfl ?_
 intro w O
 refine ent_lenC 0 2 rfl rfl (fun hlen0_2 => ?_)
 refine ent_lenC 0 4 rfl rfl (fun hlen0_4 => ?_)
 refine ent_lenC 0 5 rfl rfl (fun hlen0_5 => ?_)
 refine ent_lenC 0 6 rfl rfl (fun hlen0_6 => ?_)
 refine ent_lenC 0 7 rfl rfl (fun hlen0_7 => ?_)
 refine esr rfl fun _ K1 => ?_
 refine ent_boxS rfl rfl (AllOne.mem ⟨(one_int _), (one_int _), one_sl, (one_int _), one_sl, one_sl, one_sl, one_sl, (one_int _), trivial⟩) (fun b1_1 => ?_)
 refine emm rfl ?_
 refine enk K1 ?_
 refine ent_seq fun _ K2 => ?_
 refine esr rfl fun _ K3 => ?_
 refine ent_o rfl (ok_fieldAddrEx Tryz.runUnderlying30 rfl Tryz.sizeOf27 (by decide) rfl) ?_
 refine ent_o rfl (ok_loadBS (k := 0) ti27 rfl rfl rfl) ?_
 refine ent_o rfl (ok_call (small_ok q.C) rfl) ?_
 refine ent_o rfl (ok_notD rfl) ?_
 refine enk K3 ?_
 refine ent_condD rfl (fun h9 => ?_) (fun h9 => ?_)
 ·refine esr rfl fun _ K4 => ?_
  refine ent_o rfl (ok_call alive_ok rfl) ?_
  refine emm rfl ?_
  refine enk K4 ?_
  refine ent_ret ?_
  exact retR1 (.inr rfl) Tryz.results3 (resr_tmp (res_cv rfl (cv_bool (by first | rfl | (simp; done) | (unfold prfL; rw [if_neg h32]; rfl)))))
 ·refine esp K2 ?_
  refine esr rfl fun _ K5 => ?_
  refine ent_o rfl (ok_fieldAddrEx Tryz.runUnderlying30 rfl Tryz.sizeOf27 (by decide) rfl) ?_
  refine ent_o rfl (ok_loadBS (k := 0) ti27 rfl rfl rfl) ?_
  refine ent_o rfl (ok_fieldAddrEx Tryz.runUnderlying30 rfl Tryz.sizeOf28 (by decide) rfl) ?_
  refine ent_o rfl (ok_loadB (k := 0) Tryz.isAgg28 rfl rfl rfl) ?_
  refine ent_o rfl (ok_call (cPrf_ok q.C q.L (by first | rfl | assumption | omega | (simp_all; done) | grind)) rfl) ?_
  refine emm rfl ?_
  refine ent_o rfl (ok_extract rfl rfl) ?_
  refine ent_o rfl (ok_extract rfl rfl) ?_
  refine emm rfl ?_
  refine enk K5 ?_
  refine esr rfl fun _ K6 => ?_
  refine ent_o rfl (ok_fieldAddrEx Tryz.runUnderlying30 rfl Tryz.sizeOf27 (by decide) rfl) ?_
  refine ent_o rfl (ok_loadBS (k := 0) ti27 rfl rfl rfl) ?_
  refine ent_o rfl (ok_fieldAddrEx Tryz.runUnderlying30 rfl Tryz.sizeOf28 (by decide) rfl) ?_
  refine ent_o rfl (ok_loadB (k := 0) Tryz.isAgg28 rfl rfl rfl) ?_
  refine ent_o rfl (ok_call (rChk28_ok q.C q.L) rfl) ?_
  refine emm rfl ?_
  refine enk K6 ?_
  refine ent_seq fun _ K7 => ?_
  refine esr rfl fun _ K8 => ?_
  refine ent_o rfl (ok_neq rfl rfl) ?_
  refine emm rfl ?_
  refine ent_guardXT rfl rfl rfl rfl (decide_eq_false (fun hq => hq rfl)) ?_
  refine ent_o rfl (ok_call alive_ok rfl) ?_
  refine ent_guardXT rfl rfl rfl rfl (decide_eq_false (fun hq => hq rfl)) ?_
  refine ent_o rfl (ok_not rfl) ?_
  refine ent_o rfl (ok_pickF rfl (decide_eq_false (fun hq => hq rfl)) rfl) ?_
  refine enk K8 ?_
  refine ent_condF rfl ?_
  refine esp K7 ?_
  refine ent_seq fun _ K9 => ?_
  refine esr rfl fun _ K10 => ?_
  refine ent_o rfl (ok_neq rfl rfl) ?_
  refine enk K10 ?_
  refine ent_condD rfl (fun h32 => ?_) (fun h32 => ?_)
  ·refine esr rfl fun _ K11 => ?_
   refine ent_o rfl (ok_len rfl Tryz.runUnderlying22 rfl) ?_
   refine ent_o rfl (ok_eql rfl rfl) ?_
   refine emm rfl ?_
   refine enk K11 ?_
   refine ent_ret ?_
   exact retR1 (.inr rfl) Tryz.results3 (resr_tmp (res_cv rfl (cv_bool (by first | rfl | (simp; done) | (unfold prfL; rw [if_neg h32]; rfl)))))
  ·refine esp K9 ?_
   refine esr rfl fun _ K12 => ?_
   refine ent_o rfl (ok_fieldAddrEx Tryz.runUnderlying30 rfl Tryz.sizeOf27 (by decide) rfl) ?_
   refine ent_o rfl (ok_loadBS (k := 0) ti27 rfl rfl rfl) ?_
   refine ent_o rfl (ok_fieldAddrEx Tryz.runUnderlying30 rfl Tryz.sizeOf28 (by decide) rfl) ?_
   refine ent_o rfl (ok_loadB (k := 0) Tryz.isAgg28 rfl rfl rfl) ?_
   refine ent_o rfl (ok_call (rPrf_ok q.C q.L (Classical.not_not.1 h32)) rfl) ?_
   refine ent_o rfl (ok_call (rSame_ok (prfL q.C q.L) (prfL q.C q.L)) rfl) ?_
   refine emm rfl ?_
   refine enk K12 ?_
   refine ent_ret ?_
   exact retR1 (.inr rfl) Tryz.results3 (resr_tmp (res_cv rfl (cv_bool (by first | rfl | (simp; done) | (unfold prfL; rw [if_neg h32]; rfl)))))
end Go.Proofs.YtcilbmggiahciaaGreat
