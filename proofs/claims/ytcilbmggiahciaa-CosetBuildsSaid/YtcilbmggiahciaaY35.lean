/-
  Walks of functions of the program and the reference.
-/
import Derived.Test.YtcilbmggiahciaaY34
open Go Go.Cw
namespace Go.Proofs.Ytcilbmggiahciaa
open Try
set_option maxRecDepth 100000
set_option linter.unusedVariables false
set_option linter.unusedSimpArgs false
theorem awCnt : Ctr Try.prog 6 [aCod awK] (aTup [aInt 4, aInt 0]) := by
 have h := Count_ok awK
 rw [awk_v, awk_e] at h
 exact h

theorem alive_ok   : Ctr Try.prog 12 [] (aBool true) := by
 refine ctr_of Try.call12 func12 rfl rfl ?_
 intro w O
 refine esk rfl ?_
 refine esr rfl fun _ K2 => ?_
 refine ent_o rfl (ok_build st24 (As := [aInt 0, aInt 0, aEx (.slice none 0 0)]) z24 (⟨0, 1, rfl, .inl ⟨rfl, _, rfl, (one_int _), rfl, ⟨1, 1, rfl, .inl ⟨rfl, _, rfl, (one_int _), rfl, rfl⟩⟩⟩⟩)) ?_
 refine ent_o rfl (ok_build st27 (As := [aInt 0, aInt 0, aEx (.slice none 0 0), aInt 0, aEx (.slice none 0 0)]) z27 (⟨0, 3, rfl, .inr ⟨_, rfl, rfl, rfl, ⟨3, 1, rfl, .inl ⟨rfl, _, rfl, (one_int _), rfl, rfl⟩⟩⟩⟩)) ?_
 refine ent_o rfl (ok_callA awCnt ⟨arg_a rfl (cv_agg ⟨cv_int rfl, cv_int rfl, cv_nil (fun _ => rfl) rfl, cv_int rfl, cv_nil (fun _ => rfl) rfl, trivial⟩), trivial⟩) ?_
 refine emm rfl ?_
 refine ent_o rfl (ok_extract rfl rfl) ?_
 refine ent_o rfl (ok_extract rfl rfl) ?_
 refine emm rfl ?_
 refine enk K2 ?_
 refine esr rfl fun _ K3 => ?_
 refine ent_o rfl (ok_eql rfl rfl) ?_
 refine emm rfl ?_
 refine ent_guardXT rfl rfl rfl rfl (by decide) ?_
 refine emm rfl ?_
 refine ent_guardXT rfl rfl rfl rfl (by decide) ?_
 refine ent_o rfl (ok_eql rfl rfl) ?_
 refine ent_o rfl (ok_pickT rfl (by decide) rfl) ?_
 refine emm rfl ?_
 refine enk K3 ?_
 refine ent_ret ?_
 exact retR1 (.inr rfl) results12 (resr_tmp (res_cv rfl (cv_bool rfl)))

theorem small_ok (c : Cod)  : Ctr Try.prog 13 [aCod c] (aBool (decide (csE c ≠ 0 ∨ csV c ≤ 1024))) := by
 refine ctr_of Try.call13 func13 rfl rfl ?_
 intro w O
 refine ent_lenC 0 2 rfl rfl (fun hlen0_2 => ?_)
 refine ent_lenC 0 4 rfl rfl (fun hlen0_4 => ?_)
 refine esr rfl fun _ K1 => ?_
 refine ent_boxS rfl rfl (AllOne.mem ⟨(one_int _), (one_int _), one_sl, (one_int _), one_sl, trivial⟩) (fun b1_1 => ?_)
 refine emm rfl ?_
 refine enk K1 ?_
 refine esr rfl fun _ K2 => ?_
 refine ent_o rfl (ok_loadBS (k := 0) ti27 rfl rfl rfl) ?_
 refine ent_o rfl (ok_call (rCount28_ok c) rfl) ?_
 refine emm rfl ?_
 refine ent_o rfl (ok_extract rfl rfl) ?_
 refine ent_o rfl (ok_extract rfl rfl) ?_
 refine emm rfl ?_
 refine enk K2 ?_
 refine ent_seq fun _ K3 => ?_
 refine ent_cut (⟨[(2, aBool (decide (((csE c) ≠ 0) ∨ ((csV c) ≤ 1024))))], [oBox b1_1 27 [aInt c.F.P, aInt c.F.M, aSl 1 false aInt c.F.mod, aInt c.N, aSl 1 false aInts c.Gen]]⟩) ?_ ?_
 ·refine ent_region ?_
  refine emm rfl ?_
  refine ent_o rfl (ok_neq rfl rfl) ?_
  refine emm rfl ?_
  refine ent_guardXDf rfl rfl rfl rfl (fun hg12 => ?_) (fun hg12 => ?_)
  ·refine emm rfl ?_
   refine ent_guardXT rfl rfl rfl rfl (decide_eq_false hg12) ?_
   refine ent_o rfl (ok_leq rfl rfl) ?_
   refine ent_o rfl (ok_pickF rfl (decide_eq_false hg12) rfl) ?_
   refine emm rfl ?_
   refine ent_nil ?_
   exact ent_rep ⟨slot_bool (dq_Q ((or_iff_right hg12).trans Iff.rfl)), trivial⟩ rfl
  refine ent_guardXF rfl rfl rfl rfl (decide_eq_true hg12) ?_
  refine ent_o rfl (ok_pickT rfl (decide_eq_true hg12) rfl) ?_
  refine emm rfl ?_
  refine ent_nil ?_
  exact ent_rep ⟨slot_bool (dq_T rfl (Or.inl hg12)), trivial⟩ rfl
 refine ent_k K3 ?_
 refine ent_ret ?_
 exact retR1 (.inr rfl) results13 (resr_tmp (res_cv rfl (cv_bool rfl)))

end Go.Proofs.Ytcilbmggiahciaa

