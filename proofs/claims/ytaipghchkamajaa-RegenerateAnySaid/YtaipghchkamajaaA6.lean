/-
  Walks of functions of the program and the reference.
-/
import Derived.Test.YtaipghchkamajaaA5
open Go Go.Cw
namespace Go.Proofs.Ytaipghchkamajaa
open Try
set_option maxRecDepth 100000
set_option linter.unusedVariables false
set_option linter.unusedSimpArgs false
theorem Is_ok (f:Fld) (x:Int)  : Ctr Try.prog 57 [aGF f,aInt x] (aBool (decide (0<=x/\x<f.q))):=by
 refine ctr_of Try.call57 func57 rfl rfl ?_
 intro w O
 refine A_q 0 4 rfl rfl (fun hlen0_4=>?_)
 refine A_q 0 5 rfl rfl (fun hlen0_5=>?_)
 refine esk rfl ?_
 refine A_C fun _ K2=>?_
 refine ent_cut (⟨[(4,aBool (decide ((0<=x)/\(x<f.q))))],[]⟩) ?_ ?_
 ·refine A_H ?_
  refine emm rfl ?_
  refine A_A rfl (ok_geq rfl rfl) ?_
  refine emm rfl ?_
  refine ent_guardXDt rfl rfl rfl rfl (fun hg7=>?_) (fun hg7=>?_)
  ·refine emm rfl ?_
   refine A_M rfl rfl rfl rfl (decide_eq_true hg7) ?_
   refine emm rfl ?_
   refine A_M rfl rfl rfl rfl (decide_eq_true hg7) ?_
   refine A_A rfl (A_b rfl) ?_
   refine A_M rfl rfl rfl rfl (decide_eq_true hg7) ?_
   refine A_A rfl (A_Y runUnderlying130 rfl sizeOf3 rfl rfl) ?_
   refine A_M rfl rfl rfl rfl (decide_eq_true hg7) ?_
   refine A_A rfl (A_P ti3 rfl) ?_
   refine A_M rfl rfl rfl rfl (decide_eq_true hg7) ?_
   refine A_A rfl (A_r rfl rfl) ?_
   refine A_A rfl (A_m rfl (decide_eq_true hg7) rfl) ?_
   refine emm rfl ?_
   refine A_O ?_
   exact A_J ⟨A_X (dq_Q ((and_iff_right hg7).trans Iff.rfl)),trivial⟩ rfl
  refine A_E rfl rfl rfl rfl (decide_eq_false hg7) ?_
  refine A_E rfl rfl rfl rfl (decide_eq_false hg7) ?_
  refine A_E rfl rfl rfl rfl (decide_eq_false hg7) ?_
  refine A_E rfl rfl rfl rfl (decide_eq_false hg7) ?_
  refine A_E rfl rfl rfl rfl (decide_eq_false hg7) ?_
  refine A_A rfl (A_1 rfl (decide_eq_false hg7) rfl) ?_
  refine emm rfl ?_
  refine A_O ?_
  exact A_J ⟨A_X (dq_F rfl (fun h=>hg7 h.1)),trivial⟩ rfl
 refine A_0 K2 ?_
 refine A_Q ?_
 exact retR1 (.inr rfl) results57 (A_L (A_S rfl (cv_bool rfl)))

theorem in_ok (f:Fld) (x:Int)  : Ctr Try.prog 92 [aGF f,aInt x] (aInt (inF f x)):=by
 refine ctr_of Try.call92 func92 rfl rfl ?_
 intro w O
 refine A_q 0 4 rfl rfl (fun hlen0_4=>?_)
 refine A_q 0 5 rfl rfl (fun hlen0_5=>?_)
 refine esk rfl ?_
 refine A_C fun _ K2=>?_
 refine esr rfl fun _ K3=>?_
 refine A_A rfl (A_W (Is_ok f x) rfl) ?_
 refine enk K3 ?_
 refine A_G rfl (fun h7=>?_) (fun h7=>?_)
 ·refine esk rfl ?_
  refine A_Q ?_
  exact retR1 (.inr rfl) results92 (A_L (A_S rfl (A_Z (by unfold inF;rw [if_pos h7]))))
 refine esp K2 ?_
 refine esk rfl ?_
 refine A_Q ?_
 exact retR1 (.inr rfl) results92 (A_L (A_S rfl (A_Z (by unfold inF;rw [if_neg h7]))))

theorem Pow_ok (f:Fld) (x n:Int) (hF:FOk f) (hn0 : -9223372036854775808<=n) (hn1:n<=9223372036854775807):Ctr Try.prog 59 [aGF f,aInt x,aInt n] (aTup [aInt (powF f x n),aInt (powE f x n)]):=by
 have hS:=hF.1
 have hb:=hS.bd
 have hix:=inF_lt hS x
 have hpn:=powN_lt hS n
 have hE:=hF.exp_good
 have hL:=length_logsTo f (f.q-1)
 change f.logs.length=_ at hL
 refine ctr_of Try.call59 func59 rfl rfl ?_
 intro w O
 refine A_q 0 4 rfl rfl (fun hlen0_4=>?_)
 refine A_q 0 5 rfl rfl (fun hlen0_5=>?_)
 refine esk rfl ?_
 refine esr rfl fun _ K2=>?_
 refine A_A rfl (A_W (in_ok f x) rfl) ?_
 refine emm rfl ?_
 refine enk K2 ?_
 refine A_C fun _ K3=>?_
 refine A_K ?_
 refine esr rfl fun _ K4=>?_
 refine A_A rfl (ok_eql rfl rfl) ?_
 refine emm rfl ?_
 refine enk K4 ?_
 refine A_G rfl (fun h12=>?_) (fun h12=>?_)
 ·refine esk rfl ?_
  refine A_Q ?_
  exact retR2 (.inr rfl) results59 (A_L (A_S rfl (A_Z (by unfold powF;rw [if_pos h12])))) (A_L (A_S rfl (A_Z (by unfold powE;rw [if_pos h12]))))
 refine A_C fun _ K6=>?_
 refine ent_cut (⟨[(0,aGF f),(1,aInt (inF f x)),(2,aInt n),(15,aBool (decide (((inF f x)=0)/\(n<0))))],[]⟩) ?_ ?_
 ·refine A_H ?_
  refine emm rfl ?_
  refine A_A rfl (ok_eql rfl rfl) ?_
  refine emm rfl ?_
  refine ent_guardXDt rfl rfl rfl rfl (fun hg18=>?_) (fun hg18=>?_)
  ·refine emm rfl ?_
   refine A_M rfl rfl rfl rfl (decide_eq_true hg18) ?_
   refine A_A rfl (A_r rfl rfl) ?_
   refine A_A rfl (A_m rfl (decide_eq_true hg18) rfl) ?_
   refine emm rfl ?_
   refine A_O ?_
   exact A_J ⟨rfl,rfl,rfl,A_X (dq_Q ((and_iff_right hg18).trans Iff.rfl)),trivial⟩ rfl
  refine A_E rfl rfl rfl rfl (decide_eq_false hg18) ?_
  refine A_A rfl (A_1 rfl (decide_eq_false hg18) rfl) ?_
  refine emm rfl ?_
  refine A_O ?_
  exact A_J ⟨rfl,rfl,rfl,A_X (dq_F rfl (fun h=>hg18 h.1)),trivial⟩ rfl
 refine A_0 K6 ?_
 refine A_G rfl (fun h15=>?_) (fun h15=>?_)
 ·refine esk rfl ?_
  refine A_Q ?_
  exact retR2 (.inr rfl) results59 (A_L (A_S rfl (A_Z (by unfold powF;rw [if_neg h12,if_pos h15.1])))) (A_L (A_S rfl (A_Z (by unfold powE;rw [if_neg h12,if_pos h15]))))
 refine esr rfl fun _ K8=>?_
 refine A_A rfl (ok_eql rfl rfl) ?_
 refine emm rfl ?_
 refine enk K8 ?_
 refine A_G rfl (fun h22=>?_) (fun h22=>?_)
 ·refine esk rfl ?_
  refine A_Q ?_
  exact retR2 (.inr rfl) results59 (A_L (A_S rfl (A_Z (by unfold powF;rw [if_neg h12,if_pos h22])))) (A_L (A_S rfl (A_Z (by unfold powE;rw [if_neg h12,if_neg h15]))))
 refine esp K3 ?_
 refine esr rfl fun _ K10=>?_
 refine A_A rfl (A_b rfl) ?_
 refine A_A rfl (A_Y runUnderlying130 rfl sizeOf3 rfl rfl) ?_
 refine A_A rfl (A_P ti3 rfl) ?_
 refine A_A rfl (ok_sub rfl rfl (by omega) (by omega)) ?_
 refine emm rfl ?_
 refine enk K10 ?_
 refine A_C fun _ K11=>?_
 have hlg:=hF.log (c:=inF f x) (by omega) hix.2
 have hmm:0<=ix 0 f.logs (inF f x)*powN f n/\ix 0 f.logs (inF f x)*powN f n<=65536:=mul_small hlg.1 (by omega) hpn.1 (by omega)
 have hmd:=Int.emod_nonneg (ix 0 f.logs (inF f x)*powN f n) (show f.q-1≠0 by omega)
 have hmd2:=Int.emod_lt_of_pos (ix 0 f.logs (inF f x)*powN f n) (show 0<f.q-1 by omega)
 refine A_H ?_
 refine emm rfl ?_
 refine A_A rfl (ok_tmod rfl rfl (by omega)) ?_
 refine emm rfl ?_
 refine A_A rfl (A_n rfl rfl (by have:=Int.tmod_lt_of_pos n (show 0<f.q-1 by omega);have:=Int.lt_tmod_of_pos n (show 0<f.q-1 by omega);omega) (by have:=Int.tmod_lt_of_pos n (show 0<f.q-1 by omega);have:=Int.lt_tmod_of_pos n (show 0<f.q-1 by omega);omega)) ?_
 refine emm rfl ?_
 refine A_A rfl (ok_rem rfl rfl (by have:=Int.lt_tmod_of_pos n (show 0<f.q-1 by omega);omega) (by have:=Int.lt_tmod_of_pos n (show 0<f.q-1 by omega);omega)) ?_
 refine ent_cv 36 rfl (A_Z (show ((Int.tmod n (f.q-1))+(f.q-1))%(f.q-1)=powN f n from rfl)) ?_
 refine emm rfl ?_
 refine enk K11 ?_
 refine A_C fun _ K12=>?_
 refine A_w 19 mixed (by kernel_rfl) (by kernel_rfl) (by kernel_rfl) ?_
 refine dw_o rfl (A_D rfl) ?_
 refine dw_o rfl (A_b rfl) ?_
 refine dw_o rfl (A_Y runUnderlying130 rfl sizeOf29 rfl rfl) ?_
 refine dw_o rfl (A_P ti29 rfl) ?_
 refine dw_o rfl (A_D rfl) ?_
 refine dw_o rfl (A_b rfl) ?_
 refine dw_o rfl (A_Y runUnderlying130 rfl sizeOf29 rfl rfl) ?_
 refine dw_o rfl (A_P ti29 rfl) ?_
 refine dw_o rfl (A_D rfl) ?_
 refine dw_o rfl (A_a 0 sl29 rfl rfl (by omega) (by omega)) ?_
 refine dw_o rfl (A_P ti3 rfl) ?_
 refine dw_o rfl (A_D rfl) ?_
 refine dw_o rfl (ok_mul rfl rfl (by omega) (by omega)) ?_
 refine dw_o rfl (A_D rfl) ?_
 refine dw_o rfl (ok_rem rfl rfl (by omega) (by omega)) ?_
 refine dw_o rfl (A_a 0 sl29 rfl rfl (by omega) (by omega)) ?_
 refine dw_o rfl (A_P ti3 rfl) ?_
 refine dw_o rfl (ok_assign rfl) ?_
 refine dw_o rfl (ok_assign rfl) ?_
 refine dw_nil ?_
 refine enk K12 ?_
 refine A_Q ?_
 exact retR2 (.inr rfl) results59 (A_L (A_S rfl (A_Z (by unfold powF;rw [if_neg h12,if_neg h22];exact hF.pow_log (by omega) hix.2 hpn.1)))) (A_L (A_S rfl (A_Z (by unfold powE;rw [if_neg h12,if_neg h15]))))
end Go.Proofs.Ytaipghchkamajaa

