/-
  Facts for the law RegenerateEncodes.
-/
import Derived.Test.YtaipghchkamajaaProg
import Derived.Test.YtaipghchkamajaaTab
import Derived.Test.YtaipghchkamajaaPlainJ1
import Derived.Test.YtaipghchkamajaaCzLib
import Derived.Test.YtaipghchkamajaaA2
import Derived.Test.YtaipghchkamajaaA4
import Derived.Test.YtaipghchkamajaaA5
import Derived.Test.YtaipghchkamajaaA6
import Derived.Test.YtaipghchkamajaaA7
import Derived.Test.YtaipghchkamajaaA9
import Derived.Test.YtaipghchkamajaaA10
import Derived.Test.YtaipghchkamajaaB1
import Derived.Test.YtaipghchkamajaaC11
import Derived.Test.YtaipghchkamajaaC12
import Derived.Test.YtaipghchkamajaaC13
import Derived.Test.YtaipghchkamajaaC14
import Derived.Test.YtaipghchkamajaaC16
import Derived.Test.YtaipghchkamajaaC18
import Derived.Test.YtaipghchkamajaaC19
import Derived.Test.YtaipghchkamajaaC22
import Derived.Test.YtaipghchkamajaaB2
import Derived.Test.YtaipghchkamajaaR1
import Derived.Test.YtaipghchkamajaaR3
import Derived.Test.YtaipghchkamajaaR5
open Go Go.Cw
namespace Go.Proofs.Ytaipghchkamajaa
set_option maxRecDepth 100000
set_option linter.unusedVariables false
set_option linter.unusedSimpArgs false
theorem RegenerateEncodes_ok (r : Rgn) (l : List Int) (hk1 : -9223372036854775808 ≤ r.K) (hk2 : r.K ≤ 9223372036854775807) (hd1 : -9223372036854775808 ≤ r.D) (hd2 : r.D ≤ 9223372036854775807) : Ctr Try.prog 10 [aRgn r, aSl 1 false aInt l] (aBool true) := by
 refine ctr_of Try.call10 Try.func10 rfl rfl ?_
 intro w O
 refine ent_lenC 0 2 rfl rfl (fun hlen0_2 => ?_)
 refine ent_lenC 0 6 rfl rfl (fun hlen0_6 => ?_)
 refine ent_len 1 rfl (fun hlen1 => ?_)
 refine esr rfl fun _ K1 => ?_
 refine ent_boxS rfl rfl (AllOne.mem ⟨(one_int _), (one_int _), one_sl, (one_int _), (one_int _), (one_int _), one_sl, trivial⟩) (fun b2_1 => ?_)
 refine emm rfl ?_
 refine enk K1 ?_
 refine ent_seq fun _ K2 => ?_
 refine esr rfl fun _ K3 => ?_
 refine ent_o rfl (ok_fieldAddrEx Try.runUnderlying53 rfl Try.sizeOf29 (by decide) rfl) ?_
 refine ent_o rfl (ok_loadB (k := 0) Try.isAgg29 rfl rfl rfl) ?_
 refine ent_o rfl (ok_len rfl Try.runUnderlying29 rfl) ?_
 refine ent_o rfl (ok_gtr rfl rfl) ?_
 refine enk K3 ?_
 refine ent_condD rfl (fun h13 => ?_) (fun h13 => ?_)
 ·refine esk rfl ?_
  refine ent_ret ?_
  exact retR1 (.inr rfl) Try.results10 (resr_tmp (res_cv rfl (cv_bool (by first | rfl | exact decide_eq_true ⟨hel, by rw [hrn]; rfl⟩ | exact decide_eq_true ⟨hz0, hrk⟩ | simp [hel, hrn] | simp [hz0, hrk]))))
 ·refine esp K2 ?_
  refine esr rfl fun _ K5 => ?_
  refine ent_o rfl (ok_loadBS (k := 0) ti53 rfl rfl rfl) ?_
  refine emm rfl ?_
  refine ent_o rfl (ok_call (Encode_ok r l (by first | rfl | assumption | omega | (simp_all; done) | grind) (by first | rfl | assumption | omega | (simp_all; done) | grind) (by first | rfl | assumption | omega | (simp_all; done) | grind) (by first | rfl | assumption | omega | (simp_all; done) | grind)) rfl) ?_
  refine emm rfl ?_
  refine ent_o rfl (ok_extract rfl rfl) ?_
  refine ent_o rfl (ok_extract rfl rfl) ?_
  refine emm rfl ?_
  refine enk K5 ?_
  refine esr rfl fun _ K6 => ?_
  refine ent_o rfl (ok_loadBS (k := 0) ti53 rfl rfl rfl) ?_
  refine ent_o rfl (ok_call (rRgCheck_ok r (by first | rfl | assumption | omega | (simp_all; done) | grind) (by first | rfl | assumption | omega | (simp_all; done) | grind) (by first | rfl | assumption | omega | (simp_all; done) | grind) (by first | rfl | assumption | omega | (simp_all; done) | grind)) rfl) ?_
  refine emm rfl ?_
  refine enk K6 ?_
  refine ent_seq fun _ K7 => ?_
  refine esr rfl fun _ K8 => ?_
  refine ent_o rfl (ok_eql rfl rfl) ?_
  refine enk K8 ?_
  refine ent_condD rfl (fun h23 => ?_) (fun h23 => ?_)
  ·have R := rgErr_zero.1 h23
   have hel := encErr_l (l := l) h23
   refine esr rfl fun _ K9 => ?_
   refine ent_o rfl (ok_loadBS (k := 0) ti53 rfl rfl rfl) ?_
   refine ent_o rfl (ok_call (rSize_ok r (by first | rfl | assumption | omega | (simp_all; done) | grind)) rfl) ?_
   refine emm rfl ?_
   refine ent_o rfl (ok_extract rfl rfl) ?_
   refine ent_o rfl (ok_extract rfl rfl) ?_
   refine emm rfl ?_
   refine enk K9 ?_
   refine ent_region ?_
   refine ent_o rfl (ok_fieldAddrEx Try.runUnderlying53 rfl Try.sizeOf51 (by decide) rfl) ?_
   refine ent_o rfl (ok_loadBS (k := 0) ti51 rfl rfl rfl) ?_
   refine emm rfl ?_
   refine ent_o rfl (ok_call (rList_ok r.F l (rgB r)) rfl) ?_
   refine emm rfl ?_
   refine enk K7 ?_
   refine ent_seq fun _ K10 => ?_
   refine esr rfl fun _ K11 => ?_
   refine ent_o rfl (ok_neq rfl rfl) ?_
   refine enk K11 ?_
   refine ent_condD rfl (fun h35 => ?_) (fun h35 => ?_)
   ·have hz : encErr r l ≠ 0 := by rw [hel]; exact h35
    have hrn := encR_no hz
    refine ent_seq fun _ K12 => ?_
    refine ent_cut (⟨[(4, aBool (decide (((encErr r l) = (lenErr r.F l (rgB r))) ∧ ((↑(encR r l).length : Int) = 0))))], [oBox b2_1 53 [aInt r.F.P, aInt r.F.M, aSl 1 false aInt r.F.mod, aInt r.Kind, aInt r.K, aInt r.D, aSl 1 false aInt r.Points]]⟩) ?_ ?_
    ·refine ent_region ?_
     refine emm rfl ?_
     refine ent_o rfl (ok_eql rfl rfl) ?_
     refine emm rfl ?_
     refine ent_guardXDt rfl rfl rfl rfl (fun hg39 => ?_) (fun hg39 => ?_)
     ·refine emm rfl ?_
      refine ent_guardXT rfl rfl rfl rfl (decide_eq_true hg39) ?_
      refine ent_o rfl (ok_len rfl Try.runUnderlying65 rfl) ?_
      refine ent_guardXT rfl rfl rfl rfl (decide_eq_true hg39) ?_
      refine ent_o rfl (ok_eql rfl rfl) ?_
      refine ent_o rfl (ok_pickT rfl (decide_eq_true hg39) rfl) ?_
      refine emm rfl ?_
      refine ent_nil ?_
      exact ent_rep ⟨slot_bool (dq_Q ((and_iff_right hg39).trans Iff.rfl)), trivial⟩ rfl
     ·refine ent_guardXF rfl rfl rfl rfl (decide_eq_false hg39) ?_
      refine ent_guardXF rfl rfl rfl rfl (decide_eq_false hg39) ?_
      refine ent_o rfl (ok_pickF rfl (decide_eq_false hg39) rfl) ?_
      refine emm rfl ?_
      refine ent_nil ?_
      exact ent_rep ⟨slot_bool (dq_F rfl (fun h => hg39 h.1)), trivial⟩ rfl
    refine ent_k K12 ?_
    refine ent_ret ?_
    exact retR1 (.inr rfl) Try.results10 (resr_tmp (res_cv rfl (cv_bool (by first | rfl | exact decide_eq_true ⟨hel, by rw [hrn]; rfl⟩ | exact decide_eq_true ⟨hz0, hrk⟩ | simp [hel, hrn] | simp [hz0, hrk]))))
   ·have hq0 := Classical.not_not.1 h35
    have hlb : (l.length : Int) = rgB r := by first | exact lenErr_len hq0 | exact absurd hq0 h23
    have R2 : RgOk r := by first | exact R | exact absurd hq0 h23
    have hz0 : encErr r l = 0 := by rw [hel]; exact hq0
    have hrk := encR_ok hz0
    refine esp K10 ?_
    refine ent_seq fun _ K13 => ?_
    refine ent_cut (⟨[(4, aBool (decide (((encErr r l) = 0) ∧ ((encR r l) = (encW r l)))))], [oBox b2_1 53 [aInt r.F.P, aInt r.F.M, aSl 1 false aInt r.F.mod, aInt r.Kind, aInt r.K, aInt r.D, aSl 1 false aInt r.Points]]⟩) ?_ ?_
    ·refine ent_region ?_
     refine emm rfl ?_
     refine ent_o rfl (ok_eql rfl rfl) ?_
     refine emm rfl ?_
     refine ent_guardXDt rfl rfl rfl rfl (fun hg46 => ?_) (fun hg46 => ?_)
     ·refine emm rfl ?_
      refine ent_guardXT rfl rfl rfl rfl (decide_eq_true hg46) ?_
      refine ent_o rfl (ok_loadBS (k := 0) ti53 rfl rfl rfl) ?_
      refine ent_guardXT rfl rfl rfl rfl (decide_eq_true hg46) ?_
      refine emm rfl ?_
      refine ent_guardXT rfl rfl rfl rfl (decide_eq_true hg46) ?_
      refine ent_o rfl (ok_call (rEncode_ok r l R2 hlb) rfl) ?_
      refine ent_guardXT rfl rfl rfl rfl (decide_eq_true hg46) ?_
      refine ent_o rfl (ok_call (SameRows_ok (encR r l) (encW r l)) rfl) ?_
      refine ent_o rfl (ok_pickT rfl (decide_eq_true hg46) rfl) ?_
      refine emm rfl ?_
      refine ent_nil ?_
      exact ent_rep ⟨slot_bool (dq_Q ((and_iff_right hg46).trans Iff.rfl)), trivial⟩ rfl
     ·refine ent_guardXF rfl rfl rfl rfl (decide_eq_false hg46) ?_
      refine ent_guardXF rfl rfl rfl rfl (decide_eq_false hg46) ?_
      refine ent_guardXF rfl rfl rfl rfl (decide_eq_false hg46) ?_
      refine ent_guardXF rfl rfl rfl rfl (decide_eq_false hg46) ?_
      refine ent_o rfl (ok_pickF rfl (decide_eq_false hg46) rfl) ?_
      refine emm rfl ?_
      refine ent_nil ?_
      exact ent_rep ⟨slot_bool (dq_F rfl (fun h => hg46 h.1)), trivial⟩ rfl
    refine ent_k K13 ?_
    refine ent_ret ?_
    exact retR1 (.inr rfl) Try.results10 (resr_tmp (res_cv rfl (cv_bool (by first | rfl | exact decide_eq_true ⟨hel, by rw [hrn]; rfl⟩ | exact decide_eq_true ⟨hz0, hrk⟩ | simp [hel, hrn] | simp [hz0, hrk]))))
  ·have hel := encErr_1 (l := l) h23
   refine esp K7 ?_
   refine ent_seq fun _ K14 => ?_
   refine esr rfl fun _ K15 => ?_
   refine ent_o rfl (ok_neq rfl rfl) ?_
   refine enk K15 ?_
   refine ent_condD rfl (fun h35 => ?_) (fun h35 => ?_)
   ·have hz : encErr r l ≠ 0 := by rw [hel]; exact h35
    have hrn := encR_no hz
    refine ent_seq fun _ K16 => ?_
    refine ent_cut (⟨[(4, aBool (decide (((encErr r l) = (rgErr r)) ∧ ((↑(encR r l).length : Int) = 0))))], [oBox b2_1 53 [aInt r.F.P, aInt r.F.M, aSl 1 false aInt r.F.mod, aInt r.Kind, aInt r.K, aInt r.D, aSl 1 false aInt r.Points]]⟩) ?_ ?_
    ·refine ent_region ?_
     refine emm rfl ?_
     refine ent_o rfl (ok_eql rfl rfl) ?_
     refine emm rfl ?_
     refine ent_guardXDt rfl rfl rfl rfl (fun hg39 => ?_) (fun hg39 => ?_)
     ·refine emm rfl ?_
      refine ent_guardXT rfl rfl rfl rfl (decide_eq_true hg39) ?_
      refine ent_o rfl (ok_len rfl Try.runUnderlying65 rfl) ?_
      refine ent_guardXT rfl rfl rfl rfl (decide_eq_true hg39) ?_
      refine ent_o rfl (ok_eql rfl rfl) ?_
      refine ent_o rfl (ok_pickT rfl (decide_eq_true hg39) rfl) ?_
      refine emm rfl ?_
      refine ent_nil ?_
      exact ent_rep ⟨slot_bool (dq_Q ((and_iff_right hg39).trans Iff.rfl)), trivial⟩ rfl
     ·refine ent_guardXF rfl rfl rfl rfl (decide_eq_false hg39) ?_
      refine ent_guardXF rfl rfl rfl rfl (decide_eq_false hg39) ?_
      refine ent_o rfl (ok_pickF rfl (decide_eq_false hg39) rfl) ?_
      refine emm rfl ?_
      refine ent_nil ?_
      exact ent_rep ⟨slot_bool (dq_F rfl (fun h => hg39 h.1)), trivial⟩ rfl
    refine ent_k K16 ?_
    refine ent_ret ?_
    exact retR1 (.inr rfl) Try.results10 (resr_tmp (res_cv rfl (cv_bool (by first | rfl | exact decide_eq_true ⟨hel, by rw [hrn]; rfl⟩ | exact decide_eq_true ⟨hz0, hrk⟩ | simp [hel, hrn] | simp [hz0, hrk]))))
   ·have hq0 := Classical.not_not.1 h35
    have hlb : (l.length : Int) = rgB r := by first | exact lenErr_len hq0 | exact absurd hq0 h23
    have R2 : RgOk r := by first | exact R | exact absurd hq0 h23
    have hz0 : encErr r l = 0 := by rw [hel]; exact hq0
    have hrk := encR_ok hz0
    refine esp K14 ?_
    refine ent_seq fun _ K17 => ?_
    refine ent_cut (⟨[(4, aBool (decide (((encErr r l) = 0) ∧ ((encR r l) = (encW r l)))))], [oBox b2_1 53 [aInt r.F.P, aInt r.F.M, aSl 1 false aInt r.F.mod, aInt r.Kind, aInt r.K, aInt r.D, aSl 1 false aInt r.Points]]⟩) ?_ ?_
    ·refine ent_region ?_
     refine emm rfl ?_
     refine ent_o rfl (ok_eql rfl rfl) ?_
     refine emm rfl ?_
     refine ent_guardXDt rfl rfl rfl rfl (fun hg46 => ?_) (fun hg46 => ?_)
     ·refine emm rfl ?_
      refine ent_guardXT rfl rfl rfl rfl (decide_eq_true hg46) ?_
      refine ent_o rfl (ok_loadBS (k := 0) ti53 rfl rfl rfl) ?_
      refine ent_guardXT rfl rfl rfl rfl (decide_eq_true hg46) ?_
      refine emm rfl ?_
      refine ent_guardXT rfl rfl rfl rfl (decide_eq_true hg46) ?_
      refine ent_o rfl (ok_call (rEncode_ok r l R2 hlb) rfl) ?_
      refine ent_guardXT rfl rfl rfl rfl (decide_eq_true hg46) ?_
      refine ent_o rfl (ok_call (SameRows_ok (encR r l) (encW r l)) rfl) ?_
      refine ent_o rfl (ok_pickT rfl (decide_eq_true hg46) rfl) ?_
      refine emm rfl ?_
      refine ent_nil ?_
      exact ent_rep ⟨slot_bool (dq_Q ((and_iff_right hg46).trans Iff.rfl)), trivial⟩ rfl
     ·refine ent_guardXF rfl rfl rfl rfl (decide_eq_false hg46) ?_
      refine ent_guardXF rfl rfl rfl rfl (decide_eq_false hg46) ?_
      refine ent_guardXF rfl rfl rfl rfl (decide_eq_false hg46) ?_
      refine ent_guardXF rfl rfl rfl rfl (decide_eq_false hg46) ?_
      refine ent_o rfl (ok_pickF rfl (decide_eq_false hg46) rfl) ?_
      refine emm rfl ?_
      refine ent_nil ?_
      exact ent_rep ⟨slot_bool (dq_F rfl (fun h => hg46 h.1)), trivial⟩ rfl
    refine ent_k K17 ?_
    refine ent_ret ?_
    exact retR1 (.inr rfl) Try.results10 (resr_tmp (res_cv rfl (cv_bool (by first | rfl | exact decide_eq_true ⟨hel, by rw [hrn]; rfl⟩ | exact decide_eq_true ⟨hz0, hrk⟩ | simp [hel, hrn] | simp [hz0, hrk]))))
end Go.Proofs.Ytaipghchkamajaa
