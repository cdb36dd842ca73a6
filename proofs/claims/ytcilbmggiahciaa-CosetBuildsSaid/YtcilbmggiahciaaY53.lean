/-
  Facts for the law CosetBuilds.
-/
import Derived.Test.YtcilbmggiahciaaY52
open Go Go.Cw
namespace Go.Proofs.Ytcilbmggiahciaa
open Try
set_option maxRecDepth 100000
set_option linter.unusedVariables false
set_option linter.unusedSimpArgs false
theorem CosetBuilds_walk (c : Cod)  : Ctr Try.prog 5 [aCod c] (aBool true) := by
 refine ctr_of Try.call5 func5 rfl rfl ?_
 intro w O
 refine ent_lenC 0 2 rfl rfl (fun hlen0_2 => ?_)
 refine ent_lenC 0 4 rfl rfl (fun hlen0_4 => ?_)
 refine esr rfl fun _ K1 => ?_
 refine ent_boxS rfl rfl (AllOne.mem ⟨(one_int _), (one_int _), one_sl, (one_int _), one_sl, trivial⟩) (fun b1_1 => ?_)
 refine emm rfl ?_
 refine enk K1 ?_
 refine ent_seq fun _ K2 => ?_
 refine esr rfl fun _ K3 => ?_
 refine ent_o rfl (ok_loadBS (k := 0) ti27 rfl rfl rfl) ?_
 refine ent_o rfl (ok_call (small_ok c) rfl) ?_
 refine ent_o rfl (ok_notD rfl) ?_
 refine enk K3 ?_
 refine ent_condD rfl (fun h9 => ?_) (fun h9 => ?_)
 ·refine esr rfl fun _ K4 => ?_
  refine ent_o rfl (ok_call alive_ok rfl) ?_
  refine emm rfl ?_
  refine enk K4 ?_
  refine ent_ret ?_
  exact retR1 (.inr rfl) results5 (resr_tmp (res_cv rfl (cv_bool rfl)))
 refine esp K2 ?_
 refine esr rfl fun _ K5 => ?_
 refine ent_o rfl (ok_loadBS (k := 0) ti27 rfl rfl rfl) ?_
 refine ent_o rfl (ok_call (Build_ok c) rfl) ?_
 refine emm rfl ?_
 refine ent_o rfl (ok_extract rfl rfl) ?_
 refine ent_o rfl (ok_extract rfl rfl) ?_
 refine emm rfl ?_
 refine enk K5 ?_
 refine esr rfl fun _ K6 => ?_
 refine ent_o rfl (ok_loadBS (k := 0) ti27 rfl rfl rfl) ?_
 refine ent_o rfl (ok_call (rCount28_ok c) rfl) ?_
 refine emm rfl ?_
 refine ent_o rfl (ok_extract rfl rfl) ?_
 refine ent_o rfl (ok_extract rfl rfl) ?_
 refine emm rfl ?_
 refine enk K6 ?_
 refine ent_seq fun _ K7 => ?_
 refine esr rfl fun _ K8 => ?_
 refine ent_o rfl (ok_neq rfl rfl) ?_
 refine enk K8 ?_
 refine ent_condFP rfl (decide_eq_false (fun hq => hq rfl)) ?_
 refine esp K7 ?_
 refine ent_seq fun _ K9 => ?_
 refine esr rfl fun _ K10 => ?_
 refine ent_o rfl (ok_neq rfl rfl) ?_
 refine enk K10 ?_
 refine ent_condD rfl (fun h25 => ?_) (fun h25 => ?_)
 ·have hlb : bldL c = [] := if_neg h25
  refine ent_seq fun _ K11 => ?_
  refine ent_cut (⟨[(2, aBool (decide (((↑(bldL c).length : Int) = 0) ∨ False)))], [oBox b1_1 27 [aInt c.F.P, aInt c.F.M, aSl 1 false aInt c.F.mod, aInt c.N, aSl 1 false aInts c.Gen]]⟩) ?_ ?_
  ·refine ent_region ?_
   refine emm rfl ?_
   refine ent_o rfl (ok_len rfl runUnderlying37 rfl) ?_
   refine ent_o rfl (ok_eql rfl rfl) ?_
   refine emm rfl ?_
   refine ent_guardXDt rfl rfl rfl rfl (fun hg29 => ?_) (fun hg29 => ?_)
   ·refine ent_o rfl (ok_call alive_ok rfl) ?_
    refine ent_o rfl (ok_pickT rfl (decide_eq_true hg29) rfl) ?_
    refine emm rfl ?_
    refine ent_nil ?_
    exact ent_rep ⟨slot_bool (dq_T rfl (Or.inl hg29)), trivial⟩ rfl
   refine ent_o rfl (ok_pickF rfl (decide_eq_false hg29) rfl) ?_
   refine emm rfl ?_
   refine ent_nil ?_
   exact ent_rep ⟨slot_bool (dq_F rfl (fun h => h.elim hg29 id)), trivial⟩ rfl
  refine ent_k K11 ?_
  refine ent_ret ?_
  exact retR1 (.inr rfl) results5 (resr_tmp (res_cv rfl (cv_bool (by rw [hlb]; rfl))))
 have h0 := Classical.not_not.1 h25
 have hck : chkL c (bldL c) = 0 := chkL_yes h0 (bld_prv h0)
 refine esp K9 ?_
 refine ent_seq fun _ K12 => ?_
 refine ent_cut (⟨[(2, aBool (decide (((chkL c (bldL c)) = 0) ∨ False)))], [oBox b1_1 27 [aInt c.F.P, aInt c.F.M, aSl 1 false aInt c.F.mod, aInt c.N, aSl 1 false aInts c.Gen]]⟩) ?_ ?_
 ·refine ent_region ?_
  refine emm rfl ?_
  refine ent_o rfl (ok_loadBS (k := 0) ti27 rfl rfl rfl) ?_
  refine ent_o rfl (ok_call (rBuild_ok c h0) rfl) ?_
  refine ent_o rfl (ok_call (Same_ok (bldL c) (bldL c)) rfl) ?_
  refine emm rfl ?_
  refine ent_guardXT rfl rfl rfl rfl (decide_eq_true rfl) ?_
  refine ent_o rfl (ok_loadBS (k := 0) ti27 rfl rfl rfl) ?_
  refine ent_guardXT rfl rfl rfl rfl (decide_eq_true rfl) ?_
  refine emm rfl ?_
  refine ent_guardXT rfl rfl rfl rfl (decide_eq_true rfl) ?_
  refine ent_o rfl (ok_call (cChk_ok c (bldL c) (bld_64 c)) rfl) ?_
  refine ent_guardXT rfl rfl rfl rfl (decide_eq_true rfl) ?_
  refine ent_o rfl (ok_eql rfl rfl) ?_
  refine ent_o rfl (ok_pickT rfl (decide_eq_true rfl) rfl) ?_
  refine emm rfl ?_
  refine ent_guardXDt rfl rfl rfl rfl (fun hg42 => ?_) (fun hg42 => ?_)
  ·refine ent_o rfl (ok_call alive_ok rfl) ?_
   refine ent_o rfl (ok_pickT rfl (decide_eq_true hg42) rfl) ?_
   refine emm rfl ?_
   refine ent_nil ?_
   exact ent_rep ⟨slot_bool (dq_T rfl (Or.inl hg42)), trivial⟩ rfl
  refine ent_o rfl (ok_pickF rfl (decide_eq_false hg42) rfl) ?_
  refine emm rfl ?_
  refine ent_nil ?_
  exact ent_rep ⟨slot_bool (dq_F rfl (fun h => h.elim hg42 id)), trivial⟩ rfl
 refine ent_k K12 ?_
 refine ent_ret ?_
 exact retR1 (.inr rfl) results5 (resr_tmp (res_cv rfl (cv_bool (by rw [hck]; simp))))
end Go.Proofs.Ytcilbmggiahciaa
