/-
  Facts for the law RegenerateRepairs.
-/
import Derived.Test.YtaipghchkamajaaProg
import Derived.Test.YtaipghchkamajaaTab
import Derived.Test.YtaipghchkamajaaPlainG
import Derived.Test.YtaipghchkamajaaPlainH
import Derived.Test.YtaipghchkamajaaPlainRp
import Derived.Test.YtaipghchkamajaaCzLib
import Derived.Test.YtaipghchkamajaaA2
import Derived.Test.YtaipghchkamajaaA4
import Derived.Test.YtaipghchkamajaaA5
import Derived.Test.YtaipghchkamajaaA6
import Derived.Test.YtaipghchkamajaaA7
import Derived.Test.YtaipghchkamajaaA9
import Derived.Test.YtaipghchkamajaaA10
import Derived.Test.YtaipghchkamajaaB1
import Derived.Test.YtaipghchkamajaaC11
import Derived.Test.YtaipghchkamajaaC12
import Derived.Test.YtaipghchkamajaaC13
import Derived.Test.YtaipghchkamajaaC14
import Derived.Test.YtaipghchkamajaaC16
import Derived.Test.YtaipghchkamajaaC18
import Derived.Test.YtaipghchkamajaaC19
import Derived.Test.YtaipghchkamajaaC22
import Derived.Test.YtaipghchkamajaaR1
open Go Go.Cw
namespace Go.Proofs.Ytaipghchkamajaa
set_option maxRecDepth 100000
set_option linter.unusedVariables false
set_option linter.unusedSimpArgs false
theorem RegenerateRepairs_ok (r : Rgn) (x : Int) (hs sy : List Int) (hk1 : -9223372036854775808 ≤ r.K) (hk2 : r.K ≤ 9223372036854775807) (hd1 : -9223372036854775808 ≤ r.D) (hd2 : r.D ≤ 9223372036854775807) : Ctr Try.prog 12 [aRgn r, aInt x, aSl 1 false aInt hs, aSl 1 false aInt sy] (aBool true) := by
 refine ctr_of Try.call12 Try.func12 rfl rfl ?_
 intro w O
 refine ent_lenC 0 2 rfl rfl (fun hlen0_2 => ?_)
 refine ent_lenC 0 6 rfl rfl (fun hlen0_6 => ?_)
 refine ent_len 2 rfl (fun hlen2 => ?_)
 refine ent_len 3 rfl (fun hlen3 => ?_)
 refine esr rfl fun _ K1 => ?_
 refine ent_boxS rfl rfl (AllOne.mem ⟨(one_int _), (one_int _), one_sl, (one_int _), (one_int _), (one_int _), one_sl, trivial⟩) (fun b4_1 => ?_)
 refine emm rfl ?_
 refine enk K1 ?_
 refine ent_seq fun _ K2 => ?_
 refine ent_seq fun _ K3 => ?_
 refine ent_cut (⟨[(1, aInt x), (2, aSl 1 false aInt hs), (3, aSl 1 false aInt sy), (4, aEx (.pointer (some ⟨b4_1, 0, none⟩))), (20, aBool (decide ((12 < (↑r.Points.length : Int)) ∨ (40 < (↑hs.length : Int)))))], [oBox b4_1 53 [aInt r.F.P, aInt r.F.M, aSl 1 false aInt r.F.mod, aInt r.Kind, aInt r.K, aInt r.D, aSl 1 false aInt r.Points]]⟩) ?_ ?_
 ·refine ent_region ?_
  refine ent_o rfl (ok_fieldAddrEx Try.runUnderlying53 rfl Try.sizeOf29 (by decide) rfl) ?_
  refine ent_o rfl (ok_loadB (k := 0) Try.isAgg29 rfl rfl rfl) ?_
  refine ent_o rfl (ok_len rfl Try.runUnderlying29 rfl) ?_
  refine ent_o rfl (ok_gtr rfl rfl) ?_
  refine emm rfl ?_
  refine ent_guardXDf rfl rfl rfl rfl (fun hg16 => ?_) (fun hg16 => ?_)
  ·refine emm rfl ?_
   refine ent_guardXT rfl rfl rfl rfl (decide_eq_false hg16) ?_
   refine ent_o rfl (ok_len rfl Try.runUnderlying29 rfl) ?_
   refine ent_guardXT rfl rfl rfl rfl (decide_eq_false hg16) ?_
   refine ent_o rfl (ok_gtr rfl rfl) ?_
   refine ent_o rfl (ok_pickF rfl (decide_eq_false hg16) rfl) ?_
   refine ent_nil ?_
   exact ent_rep ⟨rfl, rfl, rfl, rfl, slot_bool (dq_Q ((or_iff_right hg16).trans Iff.rfl)), trivial⟩ rfl
  ·refine ent_guardXF rfl rfl rfl rfl (decide_eq_true hg16) ?_
   refine ent_guardXF rfl rfl rfl rfl (decide_eq_true hg16) ?_
   refine ent_o rfl (ok_pickT rfl (decide_eq_true hg16) rfl) ?_
   refine ent_nil ?_
   exact ent_rep ⟨rfl, rfl, rfl, rfl, slot_bool (dq_T rfl (Or.inl hg16)), trivial⟩ rfl
 refine ent_k K3 ?_
 refine ent_condD rfl (fun h20 => ?_) (fun h20 => ?_)
 ·refine esk rfl ?_
  refine ent_ret ?_
  exact retR1 (.inr rfl) Try.results12 (resr_tmp (res_cv rfl (cv_bool (by first | rfl | exact decide_eq_true ⟨rfl, by rw [repV_no h35]; rfl⟩ | (rw [repV_no h35]; rfl) | exact decide_eq_true ⟨hq, hv⟩ | simp [repV_no h35, hq, hv]))))
 ·refine esp K2 ?_
  refine esr rfl fun _ K5 => ?_
  refine ent_o rfl (ok_loadBS (k := 0) ti53 rfl rfl rfl) ?_
  refine emm rfl ?_
  refine ent_o rfl (ok_call (Repair_ok r x hs sy (by first | rfl | assumption | omega | (simp_all; done) | grind) (by first | rfl | assumption | omega | (simp_all; done) | grind) (by first | rfl | assumption | omega | (simp_all; done) | grind) (by first | rfl | assumption | omega | (simp_all; done) | grind)) rfl) ?_
  refine emm rfl ?_
  refine ent_o rfl (ok_extract rfl rfl) ?_
  refine ent_o rfl (ok_extract rfl rfl) ?_
  refine emm rfl ?_
  refine enk K5 ?_
  refine esr rfl fun _ K6 => ?_
  refine ent_o rfl (ok_loadBS (k := 0) ti53 rfl rfl rfl) ?_
  refine emm rfl ?_
  refine ent_o rfl (ok_call (rRepairArgs_ok r x hs sy (by first | rfl | assumption | omega | (simp_all; done) | grind) (by first | rfl | assumption | omega | (simp_all; done) | grind) (by first | rfl | assumption | omega | (simp_all; done) | grind) (by first | rfl | assumption | omega | (simp_all; done) | grind)) rfl) ?_
  refine emm rfl ?_
  refine enk K6 ?_
  refine ent_seq fun _ K7 => ?_
  refine esr rfl fun _ K8 => ?_
  refine ent_o rfl (ok_neq rfl rfl) ?_
  refine enk K8 ?_
  refine ent_condD rfl (fun h35 => ?_) (fun h35 => ?_)
  ·refine esr rfl fun _ K9 => ?_
   refine ent_o rfl (ok_eql rfl rfl) ?_
   refine emm rfl ?_
   refine ent_guardXT rfl rfl rfl rfl (decide_eq_true rfl) ?_
   refine emm rfl ?_
   refine ent_guardXT rfl rfl rfl rfl (decide_eq_true rfl) ?_
   refine ent_o rfl (ok_len rfl Try.runUnderlying29 rfl) ?_
   refine ent_guardXT rfl rfl rfl rfl (decide_eq_true rfl) ?_
   refine ent_o rfl (ok_eql rfl rfl) ?_
   refine ent_o rfl (ok_pickT rfl (decide_eq_true rfl) rfl) ?_
   refine emm rfl ?_
   refine enk K9 ?_
   refine ent_ret ?_
   exact retR1 (.inr rfl) Try.results12 (resr_tmp (res_cv rfl (cv_bool (by first | rfl | exact decide_eq_true ⟨rfl, by rw [repV_no h35]; rfl⟩ | (rw [repV_no h35]; rfl) | exact decide_eq_true ⟨hq, hv⟩ | simp [repV_no h35, hq, hv]))))
  ·have hq : repErr r x hs sy = 0 := Classical.not_not.1 h35
   have hz := repErr_zero hq
   have hR := rep_facts hz.1 hz.2.2.1 hz.2.2.2
   have hlen := (rgErr_zero.1 hz.1).len
   have hv := repV_ok hq
   refine esp K7 ?_
   refine ent_seq fun _ K10 => ?_
   refine ent_cut (⟨[(8, aBool (decide (((repErr r x hs sy) = 0) ∧ ((repV r x hs sy) = (repU r x hs sy)))))], [oBox b4_1 53 [aInt r.F.P, aInt r.F.M, aSl 1 false aInt r.F.mod, aInt r.Kind, aInt r.K, aInt r.D, aSl 1 false aInt r.Points]]⟩) ?_ ?_
   ·refine ent_region ?_
    refine emm rfl ?_
    refine ent_o rfl (ok_eql rfl rfl) ?_
    refine emm rfl ?_
    refine ent_guardXDt rfl rfl rfl rfl (fun hg46 => ?_) (fun hg46 => ?_)
    ·refine emm rfl ?_
     refine ent_guardXT rfl rfl rfl rfl (decide_eq_true hg46) ?_
     refine ent_o rfl (ok_loadBS (k := 0) ti53 rfl rfl rfl) ?_
     refine ent_guardXT rfl rfl rfl rfl (decide_eq_true hg46) ?_
     refine emm rfl ?_
     refine ent_guardXT rfl rfl rfl rfl (decide_eq_true hg46) ?_
     refine emm rfl ?_
     refine ent_guardXT rfl rfl rfl rfl (decide_eq_true hg46) ?_
     refine emm rfl ?_
     refine ent_guardXT rfl rfl rfl rfl (decide_eq_true hg46) ?_
     refine ent_o rfl (ok_call (rRepair_ok r x hs sy (by first | rfl | assumption | omega | (simp_all; done) | grind) (by first | rfl | assumption | omega | (simp_all; done) | grind) (by first | rfl | assumption | omega | (simp_all; done) | grind) (by first | rfl | assumption | omega | (simp_all; done) | grind)) rfl) ?_
     refine ent_guardXT rfl rfl rfl rfl (decide_eq_true hg46) ?_
     refine ent_o rfl (ok_call (SameInts_ok (repV r x hs sy) (repU r x hs sy)) rfl) ?_
     refine ent_o rfl (ok_pickT rfl (decide_eq_true hg46) rfl) ?_
     refine emm rfl ?_
     refine ent_nil ?_
     exact ent_rep ⟨slot_bool (dq_Q ((and_iff_right hg46).trans Iff.rfl)), trivial⟩ rfl
    ·refine ent_guardXF rfl rfl rfl rfl (decide_eq_false hg46) ?_
     refine ent_guardXF rfl rfl rfl rfl (decide_eq_false hg46) ?_
     refine ent_guardXF rfl rfl rfl rfl (decide_eq_false hg46) ?_
     refine ent_guardXF rfl rfl rfl rfl (decide_eq_false hg46) ?_
     refine ent_guardXF rfl rfl rfl rfl (decide_eq_false hg46) ?_
     refine ent_guardXF rfl rfl rfl rfl (decide_eq_false hg46) ?_
     refine ent_o rfl (ok_pickF rfl (decide_eq_false hg46) rfl) ?_
     refine emm rfl ?_
     refine ent_nil ?_
     exact ent_rep ⟨slot_bool (dq_F rfl (fun h => hg46 h.1)), trivial⟩ rfl
   refine ent_k K10 ?_
   refine ent_ret ?_
   exact retR1 (.inr rfl) Try.results12 (resr_tmp (res_cv rfl (cv_bool (by first | rfl | exact decide_eq_true ⟨rfl, by rw [repV_no h35]; rfl⟩ | (rw [repV_no h35]; rfl) | exact decide_eq_true ⟨hq, hv⟩ | simp [repV_no h35, hq, hv]))))
end Go.Proofs.Ytaipghchkamajaa
