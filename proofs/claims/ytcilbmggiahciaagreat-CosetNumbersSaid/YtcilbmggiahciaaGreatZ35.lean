/-
  Walks of functions of the program and the reference.
-/
import Derived.Test.YtcilbmggiahciaaGreatZ34
open Go Go.Cw
namespace Go.Proofs.YtcilbmggiahciaaGreat
open Tryz
set_option maxRecDepth 100000
set_option linter.unusedVariables false
set_option linter.unusedSimpArgs false
theorem awCnt:Ctr Tryz.prog 32 [aCod awK] (aTup [aInt 4,aInt 0]):=by
 have h:=Count_ok awK
 rw [awk_v,awk_e] at h
 exact h

theorem alive_ok   : Ctr Tryz.prog 10 [] (aBool true):=by
 refine A_p Tryz.call10 func10 rfl rfl ?_
 intro w O
 refine esk rfl ?_
 refine esr rfl fun _ K2=>?_
 refine A_A rfl (ok_build st24 (As:=[aInt 0,aInt 0,aEx (.slice none 0 0)]) z24 (⟨0,1,rfl,.inl ⟨rfl,_,rfl,(A_F _),rfl,⟨1,1,rfl,.inl ⟨rfl,_,rfl,(A_F _),rfl,rfl⟩⟩⟩⟩)) ?_
 refine A_A rfl (ok_build st27 (As:=[aInt 0,aInt 0,aEx (.slice none 0 0),aInt 0,aEx (.slice none 0 0)]) z27 (⟨0,3,rfl,.inr ⟨_,rfl,rfl,rfl,⟨3,1,rfl,.inl ⟨rfl,_,rfl,(A_F _),rfl,rfl⟩⟩⟩⟩)) ?_
 refine A_A rfl (ok_callA awCnt ⟨arg_a rfl (cv_agg ⟨A_a rfl,A_a rfl,cv_nil (fun _=>rfl) rfl,A_a rfl,cv_nil (fun _=>rfl) rfl,trivial⟩),trivial⟩) ?_
 refine emm rfl ?_
 refine A_A rfl (A_Q rfl rfl) ?_
 refine A_A rfl (A_Q rfl rfl) ?_
 refine emm rfl ?_
 refine enk K2 ?_
 refine esr rfl fun _ K3=>?_
 refine A_A rfl (ok_eql rfl rfl) ?_
 refine emm rfl ?_
 refine A_M rfl rfl rfl rfl (by decide) ?_
 refine emm rfl ?_
 refine A_M rfl rfl rfl rfl (by decide) ?_
 refine A_A rfl (ok_eql rfl rfl) ?_
 refine A_A rfl (A_l rfl (by decide) rfl) ?_
 refine emm rfl ?_
 refine enk K3 ?_
 refine A_R ?_
 exact retR1 (.inr rfl) results10 (A_H (A_T rfl (cv_bool rfl)))

theorem small_ok (c:Cod)  : Ctr Tryz.prog 9 [aCod c] (aBool (decide (csE c≠0\/csV c<=1024))):=by
 refine A_p Tryz.call9 func9 rfl rfl ?_
 intro w O
 refine A_Y 0 2 rfl rfl (fun hlen0_2=>?_)
 refine A_Y 0 4 rfl rfl (fun hlen0_4=>?_)
 refine esr rfl fun _ K1=>?_
 refine A_h rfl rfl (AllOne.mem ⟨(A_F _),(A_F _),A_c,(A_F _),A_c,trivial⟩) (fun b1_1=>?_)
 refine emm rfl ?_
 refine enk K1 ?_
 refine esr rfl fun _ K2=>?_
 refine A_A rfl (A_P (k:=0) ti27 rfl rfl rfl) ?_
 refine A_A rfl (A_S (rCount28_ok c) rfl) ?_
 refine emm rfl ?_
 refine A_A rfl (A_Q rfl rfl) ?_
 refine A_A rfl (A_Q rfl rfl) ?_
 refine emm rfl ?_
 refine enk K2 ?_
 refine A_C fun _ K3=>?_
 refine ent_cut (⟨[(2,aBool (decide (((csE c)≠0)\/((csV c)<=1024))))],[oBox b1_1 27 [aInt c.F.P,aInt c.F.M,aSl 1 false aInt c.F.mod,aInt c.N,aSl 1 false aInts c.Gen]]⟩) ?_ ?_
 ·refine A_D ?_
  refine emm rfl ?_
  refine A_A rfl (A_y rfl rfl) ?_
  refine emm rfl ?_
  refine A_v rfl rfl rfl rfl (fun hg12=>?_) (fun hg12=>?_)
  ·refine emm rfl ?_
   refine A_M rfl rfl rfl rfl (decide_eq_false hg12) ?_
   refine A_A rfl (ok_leq rfl rfl) ?_
   refine A_A rfl (A_r rfl (decide_eq_false hg12) rfl) ?_
   refine emm rfl ?_
   refine A_O ?_
   exact A_I ⟨A_Z (dq_Q ((or_iff_right hg12).trans Iff.rfl)),trivial⟩ rfl
  refine A_G rfl rfl rfl rfl (decide_eq_true hg12) ?_
  refine A_A rfl (A_l rfl (decide_eq_true hg12) rfl) ?_
  refine emm rfl ?_
  refine A_O ?_
  exact A_I ⟨A_Z (dq_T rfl (Or.inl hg12)),trivial⟩ rfl
 refine A_s K3 ?_
 refine A_R ?_
 exact retR1 (.inr rfl) results9 (A_H (A_T rfl (cv_bool rfl)))
end Go.Proofs.YtcilbmggiahciaaGreat

