/-
  Facts for the law CosetSyndromes.
-/
import Derived.Test.YtcilbmggiahciaaProg
import Derived.Test.YtcilbmggiahciaaYTab
import Derived.Test.YtcilbmggiahciaaPlainJ2
import Derived.Test.YtcilbmggiahciaaCiLib
import Derived.Test.YtcilbmggiahciaaY4
import Derived.Test.YtcilbmggiahciaaY5
import Derived.Test.YtcilbmggiahciaaY6
import Derived.Test.YtcilbmggiahciaaY9
import Derived.Test.YtcilbmggiahciaaY1
import Derived.Test.YtcilbmggiahciaaY10
import Derived.Test.YtcilbmggiahciaaY11
import Derived.Test.YtcilbmggiahciaaY12
import Derived.Test.YtcilbmggiahciaaY13
import Derived.Test.YtcilbmggiahciaaY14
import Derived.Test.YtcilbmggiahciaaY15
import Derived.Test.YtcilbmggiahciaaY18
import Derived.Test.YtcilbmggiahciaaY19
import Derived.Test.YtcilbmggiahciaaY20
import Derived.Test.YtcilbmggiahciaaY31
import Derived.Test.YtcilbmggiahciaaY32
import Derived.Test.YtcilbmggiahciaaY33
import Derived.Test.YtcilbmggiahciaaY34
open Go Go.Cw
namespace Go.Proofs.Ytcilbmggiahciaa
set_option maxRecDepth 100000
set_option linter.unusedVariables false
set_option linter.unusedSimpArgs false
theorem awCnt : Ctr Try.prog 6 [aCod awK] (aTup [aInt 4, aInt 0]) := by
 have h := Count_ok awK
 rw [awk_v, awk_e] at h
 exact h

theorem alive_ok   : Ctr Try.prog 12 [] (aBool true) := by
 refine ctr_of Try.call12 Try.func12 rfl rfl ?_
 intro w O
 refine esk rfl ?_
 refine esr rfl fun _ K2 => ?_
 refine ent_o rfl (ok_build st24 (As := [aInt 0, aInt 0, aEx (.slice none 0 0)]) z24 (⟨0, 1, rfl, .inl ⟨rfl, _, rfl, (one_int _), rfl, ⟨1, 1, rfl, .inl ⟨rfl, _, rfl, (one_int _), rfl, rfl⟩⟩⟩⟩)) ?_
 refine ent_o rfl (ok_build st27 (As := [aInt 0, aInt 0, aEx (.slice none 0 0), aInt 0, aEx (.slice none 0 0)]) z27 (⟨0, 3, rfl, .inr ⟨_, rfl, rfl, rfl, ⟨3, 1, rfl, .inl ⟨rfl, _, rfl, (one_int _), rfl, rfl⟩⟩⟩⟩)) ?_
 refine ent_o rfl (ok_callA awCnt ⟨arg_a rfl (cv_agg ⟨cv_int (by first | rfl | assumption | omega | (simp_all; done) | grind), cv_int (by first | rfl | assumption | omega | (simp_all; done) | grind), cv_nil (fun _ => rfl) (by first | rfl | assumption | omega | (simp_all; done) | grind), cv_int (by first | rfl | assumption | omega | (simp_all; done) | grind), cv_nil (fun _ => rfl) (by first | rfl | assumption | omega | (simp_all; done) | grind), trivial⟩), trivial⟩) ?_
 refine emm rfl ?_
 refine ent_o rfl (ok_extract rfl rfl) ?_
 refine ent_o rfl (ok_extract rfl rfl) ?_
 refine emm rfl ?_
 refine enk K2 ?_
 refine esr rfl fun _ K3 => ?_
 refine ent_o rfl (ok_eql rfl rfl) ?_
 refine emm rfl ?_
 refine ent_guardXT rfl rfl rfl rfl (by decide) ?_
 refine emm rfl ?_
 refine ent_guardXT rfl rfl rfl rfl (by decide) ?_
 refine ent_o rfl (ok_eql rfl rfl) ?_
 refine ent_o rfl (ok_pickT rfl (by decide) rfl) ?_
 refine emm rfl ?_
 refine enk K3 ?_
 refine ent_ret ?_
 exact retR1 (.inr rfl) Try.results12 (resr_tmp (res_cv rfl (cv_bool (by rfl))))

theorem small_ok (c : Cod)  : Ctr Try.prog 13 [aCod c] (aBool (decide (csE c ≠ 0 ∨ csV c ≤ 1024))) := by
 refine ctr_of Try.call13 Try.func13 rfl rfl ?_
 intro w O
 refine ent_lenC 0 2 rfl rfl (fun hlen0_2 => ?_)
 refine ent_lenC 0 4 rfl rfl (fun hlen0_4 => ?_)
 refine esr rfl fun _ K1 => ?_
 refine ent_boxS rfl rfl (AllOne.mem ⟨(one_int _), (one_int _), one_sl, (one_int _), one_sl, trivial⟩) (fun b1_1 => ?_)
 refine emm rfl ?_
 refine enk K1 ?_
 refine esr rfl fun _ K2 => ?_
 refine ent_o rfl (ok_loadBS (k := 0) ti27 rfl rfl rfl) ?_
 refine ent_o rfl (ok_call (rCount28_ok c) rfl) ?_
 refine emm rfl ?_
 refine ent_o rfl (ok_extract rfl rfl) ?_
 refine ent_o rfl (ok_extract rfl rfl) ?_
 refine emm rfl ?_
 refine enk K2 ?_
 refine ent_seq fun _ K3 => ?_
 refine ent_cut (⟨[(2, aBool (decide (((csE c) ≠ 0) ∨ ((csV c) ≤ 1024))))], [oBox b1_1 27 [aInt c.F.P, aInt c.F.M, aSl 1 false aInt c.F.mod, aInt c.N, aSl 1 false aInts c.Gen]]⟩) ?_ ?_
 ·refine ent_region ?_
  refine emm rfl ?_
  refine ent_o rfl (ok_neq rfl rfl) ?_
  refine emm rfl ?_
  refine ent_guardXDf rfl rfl rfl rfl (fun hg12 => ?_) (fun hg12 => ?_)
  ·refine emm rfl ?_
   refine ent_guardXT rfl rfl rfl rfl (decide_eq_false hg12) ?_
   refine ent_o rfl (ok_leq rfl rfl) ?_
   refine ent_o rfl (ok_pickF rfl (decide_eq_false hg12) rfl) ?_
   refine emm rfl ?_
   refine ent_nil ?_
   exact ent_rep ⟨slot_bool (dq_Q ((or_iff_right hg12).trans Iff.rfl)), trivial⟩ rfl
  ·refine ent_guardXF rfl rfl rfl rfl (decide_eq_true hg12) ?_
   refine ent_o rfl (ok_pickT rfl (decide_eq_true hg12) rfl) ?_
   refine emm rfl ?_
   refine ent_nil ?_
   exact ent_rep ⟨slot_bool (dq_T rfl (Or.inl hg12)), trivial⟩ rfl
 refine ent_k K3 ?_
 refine ent_ret ?_
 exact retR1 (.inr rfl) Try.results13 (resr_tmp (res_cv rfl (cv_bool (by rfl))))

theorem CosetSyndromes_walk (c : Cod) (y m : List Int)  : Ctr Try.prog 3 [aCod c, aSl 1 false aInt y, aSl 1 false aInt m] (aBool true) := by
 refine ctr_of Try.call3 Try.func3 rfl rfl ?_
 intro w O
 refine ent_lenC 0 2 rfl rfl (fun hlen0_2 => ?_)
 refine ent_lenC 0 4 rfl rfl (fun hlen0_4 => ?_)
 refine ent_len 1 rfl (fun hlen1 => ?_)
 refine ent_len 2 rfl (fun hlen2 => ?_)
 refine esr rfl fun _ K1 => ?_
 refine ent_boxS rfl rfl (AllOne.mem ⟨(one_int _), (one_int _), one_sl, (one_int _), one_sl, trivial⟩) (fun b3_1 => ?_)
 refine emm rfl ?_
 refine enk K1 ?_
 refine esr rfl fun _ K2 => ?_
 refine ent_o rfl (ok_loadBS (k := 0) ti27 rfl rfl rfl) ?_
 refine ent_o rfl (ok_call (Count_ok c) rfl) ?_
 refine emm rfl ?_
 refine ent_o rfl (ok_extract rfl rfl) ?_
 refine ent_o rfl (ok_extract rfl rfl) ?_
 refine emm rfl ?_
 refine enk K2 ?_
 refine esr rfl fun _ K3 => ?_
 refine ent_o rfl (ok_loadBS (k := 0) ti27 rfl rfl rfl) ?_
 refine ent_o rfl (ok_call (rCount28_ok c) rfl) ?_
 refine emm rfl ?_
 refine ent_o rfl (ok_extract rfl rfl) ?_
 refine ent_o rfl (ok_extract rfl rfl) ?_
 refine emm rfl ?_
 refine enk K3 ?_
 refine ent_seq fun _ K4 => ?_
 refine esr rfl fun _ K5 => ?_
 refine ent_o rfl (ok_neq rfl rfl) ?_
 refine emm rfl ?_
 refine ent_guardXT rfl rfl rfl rfl (decide_eq_false (fun hq => hq rfl)) ?_
 refine emm rfl ?_
 refine ent_guardXT rfl rfl rfl rfl (decide_eq_false (fun hq => hq rfl)) ?_
 refine emm rfl ?_
 refine ent_guardXT rfl rfl rfl rfl (decide_eq_false (fun hq => hq rfl)) ?_
 refine ent_o rfl (ok_neq rfl rfl) ?_
 refine ent_o rfl (ok_pickF rfl (decide_eq_false (fun hq => hq rfl)) rfl) ?_
 refine enk K5 ?_
 refine ent_condFP rfl (decide_eq_false (fun hq => hq rfl)) ?_
 refine esp K4 ?_
 refine esr rfl fun _ K6 => ?_
 refine ent_o rfl (ok_loadBS (k := 0) ti27 rfl rfl rfl) ?_
 refine emm rfl ?_
 refine ent_o rfl (ok_call (Syndrome_ok c y) rfl) ?_
 refine emm rfl ?_
 refine ent_o rfl (ok_extract rfl rfl) ?_
 refine ent_o rfl (ok_extract rfl rfl) ?_
 refine emm rfl ?_
 refine enk K6 ?_
 refine esr rfl fun _ K7 => ?_
 refine ent_o rfl (ok_loadBS (k := 0) ti27 rfl rfl rfl) ?_
 refine emm rfl ?_
 refine ent_o rfl (ok_call (rSyn28_ok c y) rfl) ?_
 refine emm rfl ?_
 refine ent_o rfl (ok_extract rfl rfl) ?_
 refine ent_o rfl (ok_extract rfl rfl) ?_
 refine emm rfl ?_
 refine enk K7 ?_
 refine ent_seq fun _ K8 => ?_
 refine esr rfl fun _ K9 => ?_
 refine ent_o rfl (ok_neq rfl rfl) ?_
 refine emm rfl ?_
 refine ent_guardXT rfl rfl rfl rfl (decide_eq_false (fun hq => hq rfl)) ?_
 refine emm rfl ?_
 refine ent_guardXT rfl rfl rfl rfl (decide_eq_false (fun hq => hq rfl)) ?_
 refine emm rfl ?_
 refine ent_guardXT rfl rfl rfl rfl (decide_eq_false (fun hq => hq rfl)) ?_
 refine ent_o rfl (ok_neq rfl rfl) ?_
 refine ent_o rfl (ok_pickF rfl (decide_eq_false (fun hq => hq rfl)) rfl) ?_
 refine enk K9 ?_
 refine ent_condFP rfl (decide_eq_false (fun hq => hq rfl)) ?_
 refine esp K8 ?_
 refine esr rfl fun _ K10 => ?_
 refine ent_o rfl (ok_loadBS (k := 0) ti27 rfl rfl rfl) ?_
 refine emm rfl ?_
 refine ent_o rfl (ok_call (rEncode_ok c m) rfl) ?_
 refine emm rfl ?_
 refine ent_o rfl (ok_extract rfl rfl) ?_
 refine ent_o rfl (ok_extract rfl rfl) ?_
 refine emm rfl ?_
 refine enk K10 ?_
 refine ent_seq fun _ K11 => ?_
 refine ent_seq fun _ K12 => ?_
 refine ent_cut (⟨[(1, aSl 1 false aInt y), (3, aEx (.pointer (some ⟨b3_1, 0, none⟩))), (11, aInt (syV c y)), (15, aSl 1 false aInt (encC c m)), (70, aBool (decide (((wsE c y) = 0) ∧ ((encE c m) = 0))))], [oBox b3_1 27 [aInt c.F.P, aInt c.F.M, aSl 1 false aInt c.F.mod, aInt c.N, aSl 1 false aInts c.Gen]]⟩) ?_ ?_
 ·refine ent_region ?_
  refine emm rfl ?_
  refine ent_o rfl (ok_eql rfl rfl) ?_
  refine emm rfl ?_
  refine ent_guardXDt rfl rfl rfl rfl (fun hg67 => ?_) (fun hg67 => ?_)
  ·refine emm rfl ?_
   refine ent_guardXT rfl rfl rfl rfl (decide_eq_true hg67) ?_
   refine ent_o rfl (ok_eql rfl rfl) ?_
   refine ent_o rfl (ok_pickT rfl (decide_eq_true hg67) rfl) ?_
   refine ent_nil ?_
   exact ent_rep ⟨rfl, rfl, rfl, rfl, slot_bool (dq_Q ((and_iff_right hg67).trans Iff.rfl)), trivial⟩ rfl
  ·refine ent_guardXF rfl rfl rfl rfl (decide_eq_false hg67) ?_
   refine ent_o rfl (ok_pickF rfl (decide_eq_false hg67) rfl) ?_
   refine ent_nil ?_
   exact ent_rep ⟨rfl, rfl, rfl, rfl, slot_bool (dq_F rfl (fun h => hg67 h.1)), trivial⟩ rfl
 refine ent_k K12 ?_
 refine ent_condD rfl (fun h70 => ?_) (fun h70 => ?_)
 ·have hsa := syn_add h70.1 h70.2
  have hwz := wrdE_zero.1 (ws_word h70.1)
  have hk := hwz.1
  have hn64 := hk.n64
  have hyl := hwz.2.1
  refine esr rfl fun _ K13 => ?_
  refine ent_o rfl (ok_fieldAddrEx Try.runUnderlying27 rfl Try.sizeOf24 (by decide) rfl) ?_
  refine ent_o rfl (ok_loadBS (k := 0) ti24 rfl rfl rfl) ?_
  refine emm rfl ?_
  refine ent_o rfl (ok_call (rVAdd_ok c.F y (encC c m) hk.fld.1 hsa.1 (by omega)) rfl) ?_
  refine emm rfl ?_
  refine ent_o rfl (ok_extract rfl rfl) ?_
  refine ent_o rfl (ok_extract rfl rfl) ?_
  refine emm rfl ?_
  refine enk K13 ?_
  refine esr rfl fun _ K14 => ?_
  refine ent_o rfl (ok_loadBS (k := 0) ti27 rfl rfl rfl) ?_
  refine emm rfl ?_
  refine ent_o rfl (ok_call (Syndrome_ok c (vadd c.F y (encC c m))) rfl) ?_
  refine emm rfl ?_
  refine ent_o rfl (ok_extract rfl rfl) ?_
  refine ent_o rfl (ok_extract rfl rfl) ?_
  refine emm rfl ?_
  refine enk K14 ?_
  refine ent_seq fun _ K15 => ?_
  refine ent_cut (⟨[(91, aBool (decide (((syV c (vadd c.F y (encC c m))) ≠ (syV c y)) ∨ ((wsE c (vadd c.F y (encC c m))) ≠ 0))))], [oBox b3_1 27 [aInt c.F.P, aInt c.F.M, aSl 1 false aInt c.F.mod, aInt c.N, aSl 1 false aInts c.Gen]]⟩) ?_ ?_
  ·refine ent_region ?_
   refine emm rfl ?_
   refine ent_o rfl (ok_neq rfl rfl) ?_
   refine emm rfl ?_
   refine ent_guardXDf rfl rfl rfl rfl (fun hg88 => ?_) (fun hg88 => ?_)
   ·refine emm rfl ?_
    refine ent_guardXT rfl rfl rfl rfl (decide_eq_false hg88) ?_
    refine ent_o rfl (ok_neq rfl rfl) ?_
    refine ent_o rfl (ok_pickF rfl (decide_eq_false hg88) rfl) ?_
    refine ent_nil ?_
    exact ent_rep ⟨slot_bool (dq_Q ((or_iff_right hg88).trans Iff.rfl)), trivial⟩ rfl
   ·refine ent_guardXF rfl rfl rfl rfl (decide_eq_true hg88) ?_
    refine ent_o rfl (ok_pickT rfl (decide_eq_true hg88) rfl) ?_
    refine ent_nil ?_
    exact ent_rep ⟨slot_bool (dq_T rfl (Or.inl hg88)), trivial⟩ rfl
  refine ent_k K15 ?_
  refine ent_condD rfl (fun h91 => ?_) (fun h91 => ?_)
  ·refine absurd h91 ?_; rw [hsa.2.1, hsa.2.2]; simp
  ·refine esp K11 ?_
   refine esr rfl fun _ K16 => ?_
   refine ent_o rfl (ok_call alive_ok rfl) ?_
   refine emm rfl ?_
   refine enk K16 ?_
   refine ent_ret ?_
   exact retR1 (.inr rfl) Try.results3 (resr_tmp (res_cv rfl (cv_bool (by rfl))))
 ·refine esp K11 ?_
  refine esr rfl fun _ K17 => ?_
  refine ent_o rfl (ok_call alive_ok rfl) ?_
  refine emm rfl ?_
  refine enk K17 ?_
  refine ent_ret ?_
  exact retR1 (.inr rfl) Try.results3 (resr_tmp (res_cv rfl (cv_bool (by rfl))))
end Go.Proofs.Ytcilbmggiahciaa
