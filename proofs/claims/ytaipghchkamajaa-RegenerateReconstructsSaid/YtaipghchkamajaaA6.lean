/-
  Walks.
-/
import Derived.Test.YtaipghchkamajaaA5
open Go Go.Cw
namespace Go.Proofs.Ytaipghchkamajaa
open Try
set_option maxRecDepth 100000
set_option linter.unusedVariables false
set_option linter.unusedSimpArgs false
theorem Is_ok (f:Fld) (x:Int)  : Ctr Try.prog 57 [aGF f,aInt x] (aBool (decide (0<=x/\x<f.q))):=by
 refine B_E Try.call57 func57 rfl rfl ?_
 intro w O
 refine A_0 0 4 rfl rfl fun hlen0_4=>A_0 0 5 rfl rfl fun hlen0_5=>esk rfl <|A_C fun _ K2=>?_
 refine B_N (⟨[(4,aBool (decide ((0<=x)/\(x<f.q))))],[]⟩) ?_ ?_
 ·refine A_F <|emm rfl <|A_A rfl (E_E rfl rfl) <|emm rfl ?_
  refine B_I rfl rfl rfl rfl (fun hg7=>?_) (fun hg7=>?_)
  ·refine emm rfl <|A_M rfl rfl rfl rfl (d_T hg7) <|emm rfl <|A_M rfl rfl rfl rfl (d_T hg7) <|A_A rfl (A_f rfl) <|A_M rfl rfl rfl rfl (d_T hg7) <|A_A rfl (A_d runUnderlying130 rfl sizeOf3 rfl rfl) <|A_M rfl rfl rfl rfl (d_T hg7) <|A_A rfl (A_P ti3 rfl) <|A_M rfl rfl rfl rfl (d_T hg7) <|A_A rfl (A_m rfl rfl) <|A_A rfl (A_q rfl (d_T hg7) rfl) <|emm rfl <|A_O ?_
   exact A_J ⟨A_a (dq_Q ((and_iff_right hg7).trans Iff.rfl)),trivial⟩ rfl
  refine A_E rfl rfl rfl rfl (d_F hg7) <|A_E rfl rfl rfl rfl (d_F hg7) <|A_E rfl rfl rfl rfl (d_F hg7) <|A_E rfl rfl rfl rfl (d_F hg7) <|A_E rfl rfl rfl rfl (d_F hg7) <|A_A rfl (A_3 rfl (d_F hg7) rfl) <|emm rfl <|A_O ?_
  exact A_J ⟨A_a (dq_F rfl (fun h=>hg7 h.1)),trivial⟩ rfl
 refine A_1 K2 <|A_R ?_
 exact retR1 (.inr rfl) results57 (A_L (A_U rfl (B_r rfl)))

theorem in_ok (f:Fld) (x:Int)  : Ctr Try.prog 92 [aGF f,aInt x] (aInt (inF f x)):=by
 refine B_E Try.call92 func92 rfl rfl ?_
 intro w O
 refine A_0 0 4 rfl rfl fun hlen0_4=>A_0 0 5 rfl rfl fun hlen0_5=>esk rfl <|A_C fun _ K2=>esr rfl fun _ K3=>A_A rfl (A_X (Is_ok f x) rfl) <|enk K3 ?_
 refine A_H rfl (fun h7=>?_) (fun h7=>?_)
 ·refine esk rfl <|A_R ?_
  exact retR1 (.inr rfl) results92 (A_L (A_U rfl (A_b (by unfold inF;rw [i_P h7]))))
 refine esp K2 <|esk rfl <|A_R ?_
 exact retR1 (.inr rfl) results92 (A_L (A_U rfl (A_b (by unfold inF;rw [i_N h7]))))

theorem Pow_ok (f:Fld) (x n:Int) (hF:FOk f) (hn0 : -9223372036854775808<=n:=by omega) (hn1:n<=9223372036854775807:=by omega):Ctr Try.prog 59 [aGF f,aInt x,aInt n] (aTup [aInt (powF f x n),aInt (powE f x n)]):=by
 have hS:=hF.1
 have hb:=hS.bd
 have hix:=D_r hS x
 have hpn:=powN_lt hS n
 have hE:=hF.exp_good
 have hL:=D_Y f (f.q-1)
 change f.logs.length=_ at hL
 refine B_E Try.call59 func59 rfl rfl ?_
 intro w O
 refine A_0 0 4 rfl rfl fun hlen0_4=>A_0 0 5 rfl rfl fun hlen0_5=>esk rfl <|esr rfl fun _ K2=>A_A rfl (A_X (in_ok f x) rfl) <|emm rfl <|enk K2 <|A_C fun _ K3=>A_I <|esr rfl fun _ K4=>A_A rfl (B_W rfl rfl) <|emm rfl <|enk K4 ?_
 refine A_H rfl (fun h12=>?_) (fun h12=>?_)
 ·refine esk rfl <|A_R ?_
  exact retR2 (.inr rfl) results59 (A_L (A_U rfl (A_b (by unfold powF;rw [i_P h12])))) (A_L (A_U rfl (A_b (by unfold powE;rw [i_P h12]))))
 refine A_C fun _ K6=>?_
 refine B_N (⟨[(0,aGF f),(1,aInt (inF f x)),(2,aInt n),(15,aBool (decide (((inF f x)=0)/\(n<0))))],[]⟩) ?_ ?_
 ·refine A_F <|emm rfl <|A_A rfl (B_W rfl rfl) <|emm rfl ?_
  refine B_I rfl rfl rfl rfl (fun hg18=>?_) (fun hg18=>?_)
  ·refine emm rfl <|A_M rfl rfl rfl rfl (d_T hg18) <|A_A rfl (A_m rfl rfl) <|A_A rfl (A_q rfl (d_T hg18) rfl) <|emm rfl <|A_O ?_
   exact A_J ⟨rfl,rfl,rfl,A_a (dq_Q ((and_iff_right hg18).trans Iff.rfl)),trivial⟩ rfl
  refine A_E rfl rfl rfl rfl (d_F hg18) <|A_A rfl (A_3 rfl (d_F hg18) rfl) <|emm rfl <|A_O ?_
  exact A_J ⟨rfl,rfl,rfl,A_a (dq_F rfl (fun h=>hg18 h.1)),trivial⟩ rfl
 refine A_1 K6 ?_
 refine A_H rfl (fun h15=>?_) (fun h15=>?_)
 ·refine esk rfl <|A_R ?_
  exact retR2 (.inr rfl) results59 (A_L (A_U rfl (A_b (by unfold powF;rw [i_N h12,i_P h15.1])))) (A_L (A_U rfl (A_b (by unfold powE;rw [i_N h12,i_P h15]))))
 refine esr rfl fun _ K8=>A_A rfl (B_W rfl rfl) <|emm rfl <|enk K8 ?_
 refine A_H rfl (fun h22=>?_) (fun h22=>?_)
 ·refine esk rfl <|A_R ?_
  exact retR2 (.inr rfl) results59 (A_L (A_U rfl (A_b (by unfold powF;rw [i_N h12,i_P h22])))) (A_L (A_U rfl (A_b (by unfold powE;rw [i_N h12,i_N h15]))))
 refine esp K3 <|esr rfl fun _ K10=>A_A rfl (A_f rfl) <|A_A rfl (A_d runUnderlying130 rfl sizeOf3 rfl rfl) <|A_A rfl (A_P ti3 rfl) <|A_A rfl (B_L rfl rfl) <|emm rfl <|enk K10 <|A_C fun _ K11=>?_
 have hlg:=hF.log (c:=inF f x) (by omega) hix.2
 have hmm:0<=ix 0 f.logs (inF f x)*powN f n/\ix 0 f.logs (inF f x)*powN f n<=65536:=B_5 hlg.1 (by omega) hpn.1 (by omega)
 have hmd:=Int.emod_nonneg (ix 0 f.logs (inF f x)*powN f n) (show f.q-1≠0 by omega)
 have hmd2:=Int.emod_lt_of_pos (ix 0 f.logs (inF f x)*powN f n) (show 0<f.q-1 by omega)
 refine A_F <|emm rfl <|A_A rfl (ok_tmod rfl rfl (by omega)) <|emm rfl <|A_A rfl (A_g rfl rfl (by have:=Int.tmod_lt_of_pos n (show 0<f.q-1 by omega);have:=Int.lt_tmod_of_pos n (show 0<f.q-1 by omega);omega) (by have:=Int.tmod_lt_of_pos n (show 0<f.q-1 by omega);have:=Int.lt_tmod_of_pos n (show 0<f.q-1 by omega);omega)) <|emm rfl <|A_A rfl (C_0 rfl rfl (by have:=Int.lt_tmod_of_pos n (show 0<f.q-1 by omega);omega) (by have:=Int.lt_tmod_of_pos n (show 0<f.q-1 by omega);omega)) <|ent_cv 36 rfl (A_b (show ((Int.tmod n (f.q-1))+(f.q-1))%(f.q-1)=powN f n from rfl)) <|emm rfl <|enk K11 <|A_C fun _ K12=>A_u 19 mixed (by kernel_rfl) (by kernel_rfl) (by kernel_rfl) <|dw_o rfl (A_D rfl) <|dw_o rfl (A_f rfl) <|dw_o rfl (A_d runUnderlying130 rfl sizeOf29 rfl rfl) <|dw_o rfl (A_P ti29 rfl) <|dw_o rfl (A_D rfl) <|dw_o rfl (A_f rfl) <|dw_o rfl (A_d runUnderlying130 rfl sizeOf29 rfl rfl) <|dw_o rfl (A_P ti29 rfl) <|dw_o rfl (A_D rfl) <|dw_o rfl (A_W 0 sl29 rfl rfl) <|dw_o rfl (A_P ti3 rfl) <|dw_o rfl (A_D rfl) <|dw_o rfl (B_2 rfl rfl) <|dw_o rfl (A_D rfl) <|dw_o rfl (C_0 rfl rfl) <|dw_o rfl (A_W 0 sl29 rfl rfl) <|dw_o rfl (A_P ti3 rfl) <|dw_o rfl (B_H rfl) ?_
 refine dw_o rfl (B_H rfl) <|A_9 <|enk K12 <|A_R ?_
 exact retR2 (.inr rfl) results59 (A_L (A_U rfl (A_b (by unfold powF;rw [i_N h12,i_N h22];exact hF.pow_log (by omega) hix.2 hpn.1)))) (A_L (A_U rfl (A_b (by unfold powE;rw [i_N h12,i_N h15]))))
end Go.Proofs.Ytaipghchkamajaa

