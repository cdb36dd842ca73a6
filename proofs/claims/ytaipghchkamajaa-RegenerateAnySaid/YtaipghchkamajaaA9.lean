/-
  Walks of functions of the program and the reference.
-/
import Derived.Test.YtaipghchkamajaaA6
open Go Go.Cw
namespace Go.Proofs.Ytaipghchkamajaa
open Try
set_option maxRecDepth 100000
set_option linter.unusedVariables false
set_option linter.unusedSimpArgs false
theorem Mul_ok (f:Fld) (x y:Int) (hF:FOk f):Ctr Try.prog 93 [aGF f,aInt x,aInt y] (aInt (mulF f x y)):=by
 have hS:=hF.1
 have hb:=hS.bd
 have hix:=inF_lt hS x
 have hiy:=inF_lt hS y
 have hE:=hF.exp_good
 have hL:=length_logsTo f (f.q-1)
 change f.logs.length=_ at hL
 refine ctr_of Try.call93 func93 rfl rfl ?_
 intro w O
 refine A_q 0 4 rfl rfl (fun hlen0_4=>?_)
 refine A_q 0 5 rfl rfl (fun hlen0_5=>?_)
 refine esk rfl ?_
 refine esr rfl fun _ K2=>?_
 refine A_A rfl (A_W (in_ok f x) rfl) ?_
 refine emm rfl ?_
 refine A_A rfl (A_W (in_ok f y) rfl) ?_
 refine emm rfl ?_
 refine enk K2 ?_
 refine A_C fun _ K3=>?_
 refine A_C fun _ K4=>?_
 refine ent_cut (⟨[(0,aGF f),(1,aInt (inF f x)),(2,aInt (inF f y)),(18,aBool (decide (((inF f x)=0)\/((inF f y)=0))))],[]⟩) ?_ ?_
 ·refine A_H ?_
  refine emm rfl ?_
  refine A_A rfl (ok_eql rfl rfl) ?_
  refine emm rfl ?_
  refine A_2 rfl rfl rfl rfl (fun hg15=>?_) (fun hg15=>?_)
  ·refine emm rfl ?_
   refine A_M rfl rfl rfl rfl (decide_eq_false hg15) ?_
   refine A_A rfl (ok_eql rfl rfl) ?_
   refine A_A rfl (A_1 rfl (decide_eq_false hg15) rfl) ?_
   refine A_O ?_
   exact A_J ⟨rfl,rfl,rfl,A_X (dq_Q ((or_iff_right hg15).trans Iff.rfl)),trivial⟩ rfl
  refine A_E rfl rfl rfl rfl (decide_eq_true hg15) ?_
  refine A_A rfl (A_m rfl (decide_eq_true hg15) rfl) ?_
  refine A_O ?_
  exact A_J ⟨rfl,rfl,rfl,A_X (dq_T rfl (Or.inl hg15)),trivial⟩ rfl
 refine A_0 K4 ?_
 refine A_G rfl (fun h18=>?_) (fun h18=>?_)
 ·refine esk rfl ?_
  refine A_Q ?_
  exact retR1 (.inr rfl) results93 (A_L (A_S rfl (A_Z (by exact (mulF_zero hS h18).symm))))
 have hlx:=hF.log (c:=inF f x) (by omega) hix.2
 have hly:=hF.log (c:=inF f y) (by omega) hiy.2
 have hm:=Int.emod_nonneg (ix 0 f.logs (inF f x)+ix 0 f.logs (inF f y)) (show f.q-1≠0 by omega)
 have hm2:=Int.emod_lt_of_pos (ix 0 f.logs (inF f x)+ix 0 f.logs (inF f y)) (show 0<f.q-1 by omega)
 refine esp K3 ?_
 refine A_C fun _ K6=>?_
 refine A_w 28 mixed (by kernel_rfl) (drawQ_F (by kernel_rfl)) (by kernel_rfl) ?_
 refine dw_o rfl (A_D rfl) ?_
 refine dw_o rfl (A_b rfl) ?_
 refine dw_o rfl (A_Y runUnderlying130 rfl sizeOf29 rfl rfl) ?_
 refine dw_o rfl (A_P ti29 rfl) ?_
 refine dw_o rfl (A_D rfl) ?_
 refine dw_o rfl (A_b rfl) ?_
 refine dw_o rfl (A_Y runUnderlying130 rfl sizeOf29 rfl rfl) ?_
 refine dw_o rfl (A_P ti29 rfl) ?_
 refine dw_o rfl (A_D rfl) ?_
 refine dw_o rfl (A_a 0 sl29 rfl rfl (by omega) (by omega)) ?_
 refine dw_o rfl (A_P ti3 rfl) ?_
 refine dw_o rfl (A_D rfl) ?_
 refine dw_o rfl (A_b rfl) ?_
 refine dw_o rfl (A_Y runUnderlying130 rfl sizeOf29 rfl rfl) ?_
 refine dw_o rfl (A_P ti29 rfl) ?_
 refine dw_o rfl (A_D rfl) ?_
 refine dw_o rfl (A_a 0 sl29 rfl rfl (by omega) (by omega)) ?_
 refine dw_o rfl (A_P ti3 rfl) ?_
 refine dw_o rfl (A_n rfl rfl (by omega) (by omega)) ?_
 refine dw_o rfl (A_D rfl) ?_
 refine dw_o rfl (A_b rfl) ?_
 refine dw_o rfl (A_Y runUnderlying130 rfl sizeOf3 rfl rfl) ?_
 refine dw_o rfl (A_P ti3 rfl) ?_
 refine dw_o rfl (ok_sub rfl rfl (by omega) (by omega)) ?_
 refine dw_o rfl (ok_rem rfl rfl (by omega) (by omega)) ?_
 refine dw_o rfl (A_a 0 sl29 rfl rfl (by omega) (by omega)) ?_
 refine dw_o rfl (A_P ti3 rfl) ?_
 refine dw_o rfl (ok_assign rfl) ?_
 refine dw_nil ?_
 refine enk K6 ?_
 refine A_Q ?_
 exact retR1 (.inr rfl) results93 (A_L (A_S rfl (A_Z (by exact hF.mul_log (by omega) hix.2 (by omega) hiy.2))))

theorem Add_ok (f:Fld) (x y:Int) (hF:FOk f):Ctr Try.prog 76 [aGF f,aInt x,aInt y] (aInt (addF f x y)):=by
 have hS:=hF.1
 have hb:=hS.bd
 have hix:=inF_lt hS x
 have hiy:=inF_lt hS y
 have hsl:=hS.addF_lt x y
 have hw:addF f x y=wadd f.P f.M.toNat (inF f x) (inF f y):=hS.addc_wadd _ _
 refine ctr_of Try.call76 func76 rfl rfl ?_
 intro w O
 refine A_q 0 4 rfl rfl (fun hlen0_4=>?_)
 refine A_q 0 5 rfl rfl (fun hlen0_5=>?_)
 refine esk rfl ?_
 refine esr rfl fun _ K2=>?_
 refine A_A rfl (A_W (in_ok f x) rfl) ?_
 refine emm rfl ?_
 refine A_A rfl (A_W (in_ok f y) rfl) ?_
 refine emm rfl ?_
 refine enk K2 ?_
 refine A_C fun _ K3=>?_
 refine esr rfl fun _ K4=>?_
 refine A_A rfl (A_b rfl) ?_
 refine A_A rfl (A_k runUnderlying130 rfl sizeOf51 (by decide) (Nat.le_of_ble_eq_true rfl) rfl) ?_
 refine A_A rfl (A_Y runUnderlying51 rfl sizeOf3 rfl rfl) ?_
 refine A_A rfl (A_P ti3 rfl) ?_
 refine A_A rfl (ok_eql rfl rfl) ?_
 refine enk K4 ?_
 refine A_G rfl (fun h20=>?_) (fun h20=>?_)
 ·refine esr rfl fun _ K5=>?_
  refine A_A rfl (ok_xor rfl rfl (by omega) (by omega) (by omega) (by omega)) ?_
  refine emm rfl ?_
  refine enk K5 ?_
  refine A_Q ?_
  exact retR1 (.inr rfl) results76 (A_L (A_S rfl (A_Z (by exact hS.addF_xor h20 x y))))
 refine esp K3 ?_
 refine esk rfl ?_
 refine A_C fun _ K7=>?_
 refine A_K ?_
 refine A_d (fun (ss:Int×Int×Int×Int×Nat)=>match ss with | (u,v,t,pl,n)=>(⟨[(0,aGF f),(1,aInt u),(2,aInt v),(7,aInt t),(8,aInt pl)],[]⟩:St)) (fun (ss:Int×Int×Int×Int×Nat)=>match ss with | (u,v,t,pl,n)=>(0<=u)/\(u<f.P^n)/\(0<=v)/\(v<f.P^n)/\(1<=pl)/\(pl*f.P^n=f.q)/\(0<=t)/\(t+pl*wadd f.P n u v=addF f x y)) (fun (ss:Int×Int×Int×Int×Nat)=>match ss with | (u,v,t,pl,n)=>n) (inF f x,inF f y,0,1,f.M.toNat) ⟨(by omega),(by omega),(by omega),(by omega),(by omega),(by omega),(by omega),(by rw [hw];omega)⟩ (A_J ⟨rfl,rfl,rfl,A_V (A_p (show 0=(0:Int) by rfl)),A_V (A_p (show 1=(1:Int) by rfl)),trivial⟩ rfl) ?_
 rintro ⟨u,v,t,pl,n⟩ ⟨u0,u1,v0,v1,w0,hwq,t0,ht⟩
 show Ent _ ⟨_,[]⟩ _
 refine A_C fun _ K8=>?_
 refine A_C fun _ K9=>?_
 refine ent_cut (⟨[(0,aGF f),(1,aInt u),(2,aInt v),(7,aInt t),(8,aInt pl),(29,aBool (decide ((0<u)\/(0<v))))],[]⟩) ?_ ?_
 ·refine A_H ?_
  refine emm rfl ?_
  refine A_A rfl (ok_gtr rfl rfl) ?_
  refine emm rfl ?_
  refine A_2 rfl rfl rfl rfl (fun hg26=>?_) (fun hg26=>?_)
  ·refine emm rfl ?_
   refine A_M rfl rfl rfl rfl (decide_eq_false hg26) ?_
   refine A_A rfl (ok_gtr rfl rfl) ?_
   refine A_A rfl (A_1 rfl (decide_eq_false hg26) rfl) ?_
   refine A_O ?_
   exact A_J ⟨rfl,rfl,rfl,rfl,rfl,A_X (dq_Q ((or_iff_right hg26).trans Iff.rfl)),trivial⟩ rfl
  refine A_E rfl rfl rfl rfl (decide_eq_true hg26) ?_
  refine A_A rfl (A_m rfl (decide_eq_true hg26) rfl) ?_
  refine A_O ?_
  exact A_J ⟨rfl,rfl,rfl,rfl,rfl,A_X (dq_T rfl (Or.inl hg26)),trivial⟩ rfl
 refine A_0 K9 ?_
 refine A_G rfl (fun h29=>?_) (fun h29=>?_)
 ·have hn:1<=n:=by
   by_cases hn0:n=0
   ·subst hn0;simp at u1 v1;omega
   omega
  have hpn:f.P^n=f.P^(n-1)*f.P:=by conv=>lhs;rw [show n=n-1+1 by omega,Int.pow_succ]
  have hpp:=pow_pos_of f.P hb.1 n
  have hpp1:=pow_pos_of f.P hb.1 (n-1)
  have hsu:=wadd_succ f.P hn u v
  have hwl:pl<=f.q:=by have:=Int.mul_le_mul_of_nonneg_left hpp (show 0<=pl by omega);omega
  have hwp:pl*f.P<=f.q:=by rw [<- hwq,hpn];have:=Int.mul_le_mul_of_nonneg_left hpp1 (show 0<=pl*f.P by exact Int.mul_nonneg (by omega) (by omega));rw [Int.mul_one,Int.mul_assoc,Int.mul_comm f.P] at this;exact this
  have hwp1:pl<=pl*f.P:=by have:=Int.mul_le_mul_of_nonneg_left (show (1:Int)<=f.P by omega) (show 0<=pl by omega);omega
  have hd0:=Int.emod_nonneg u (show f.P≠0 by omega)
  have hd1:=Int.emod_lt_of_pos u (show 0<f.P by omega)
  have hd2:=Int.emod_nonneg v (show f.P≠0 by omega)
  have hd3:=Int.emod_lt_of_pos v (show 0<f.P by omega)
  have hd4:=Int.emod_nonneg (u%f.P+v%f.P) (show f.P≠0 by omega)
  have hd5:=Int.emod_lt_of_pos (u%f.P+v%f.P) (show 0<f.P by omega)
  have hm:=mul_small hd4 (by omega) (show 0<=pl by omega) (by omega)
  have hwn:=wadd_nonneg f.P hb.1 n u v
  have htl:t<=256:=by have:=Int.mul_nonneg (show 0<=pl by omega) hwn;omega
  have hul:u<=256:=by have:=pow_le_q hwq w0 hpp;omega
  have hvl:v<=256:=by have:=pow_le_q hwq w0 hpp;omega
  refine esp K8 ?_
  refine A_K ?_
  refine A_C fun _ K10=>?_
  refine A_w 26 mixed (by kernel_rfl) (drawQ_F (by kernel_rfl)) (by kernel_rfl) ?_
  refine dw_o rfl (A_D rfl) ?_
  refine dw_o rfl (A_D rfl) ?_
  refine dw_o rfl (A_D rfl) ?_
  refine dw_o rfl (A_b rfl) ?_
  refine dw_o rfl (A_k runUnderlying130 rfl sizeOf51 (by decide) (Nat.le_of_ble_eq_true rfl) rfl) ?_
  refine dw_o rfl (A_Y runUnderlying51 rfl sizeOf3 rfl rfl) ?_
  refine dw_o rfl (A_P ti3 rfl) ?_
  refine dw_o rfl (ok_rem rfl rfl (by omega) (by omega)) ?_
  refine dw_o rfl (A_D rfl) ?_
  refine dw_o rfl (A_D rfl) ?_
  refine dw_o rfl (A_b rfl) ?_
  refine dw_o rfl (A_k runUnderlying130 rfl sizeOf51 (by decide) (Nat.le_of_ble_eq_true rfl) rfl) ?_
  refine dw_o rfl (A_Y runUnderlying51 rfl sizeOf3 rfl rfl) ?_
  refine dw_o rfl (A_P ti3 rfl) ?_
  refine dw_o rfl (ok_rem rfl rfl (by omega) (by omega)) ?_
  refine dw_o rfl (A_n rfl rfl (by omega) (by omega)) ?_
  refine dw_o rfl (A_D rfl) ?_
  refine dw_o rfl (A_b rfl) ?_
  refine dw_o rfl (A_k runUnderlying130 rfl sizeOf51 (by decide) (Nat.le_of_ble_eq_true rfl) rfl) ?_
  refine dw_o rfl (A_Y runUnderlying51 rfl sizeOf3 rfl rfl) ?_
  refine dw_o rfl (A_P ti3 rfl) ?_
  refine dw_o rfl (ok_rem rfl rfl (by omega) (by omega)) ?_
  refine dw_o rfl (A_D rfl) ?_
  refine dw_o rfl (ok_mul rfl rfl (by omega) (by omega)) ?_
  refine dw_o rfl (A_n rfl rfl (by omega) (by omega)) ?_
  refine dw_o rfl (ok_assign rfl) ?_
  refine dw_nil ?_
  refine enk K10 ?_
  refine esr rfl fun _ K11=>?_
  refine A_A rfl (A_b rfl) ?_
  refine A_A rfl (A_k runUnderlying130 rfl sizeOf51 (by decide) (Nat.le_of_ble_eq_true rfl) rfl) ?_
  refine A_A rfl (A_Y runUnderlying51 rfl sizeOf3 rfl rfl) ?_
  refine A_A rfl (A_P ti3 rfl) ?_
  refine A_A rfl (ok_mul rfl rfl (by omega) (by omega)) ?_
  refine emm rfl ?_
  refine enk K11 ?_
  refine esr rfl fun _ K12=>?_
  refine A_A rfl (A_b rfl) ?_
  refine A_A rfl (A_k runUnderlying130 rfl sizeOf51 (by decide) (Nat.le_of_ble_eq_true rfl) rfl) ?_
  refine A_A rfl (A_Y runUnderlying51 rfl sizeOf3 rfl rfl) ?_
  refine A_A rfl (A_P ti3 rfl) ?_
  refine A_A rfl (ok_quo rfl rfl (by omega) (by omega) (by omega)) ?_
  refine emm rfl ?_
  refine enk K12 ?_
  refine A_H ?_
  refine emm rfl ?_
  refine A_A rfl (A_b rfl) ?_
  refine A_A rfl (A_k runUnderlying130 rfl sizeOf51 (by decide) (Nat.le_of_ble_eq_true rfl) rfl) ?_
  refine A_A rfl (A_Y runUnderlying51 rfl sizeOf3 rfl rfl) ?_
  refine A_A rfl (A_P ti3 rfl) ?_
  refine A_A rfl (ok_quo rfl rfl (by omega) (by omega) (by omega)) ?_
  refine emm rfl ?_
  refine A_O ?_
  refine A_U (s:=(u,v,t,pl,n)) (u/f.P,v/f.P,t+((((u%f.P)+(v%f.P))%f.P)*pl),pl*f.P,n-1) ⟨(Int.ediv_nonneg u0 (by omega)),(Int.ediv_lt_of_lt_mul (by omega) (by rw [<- hpn];exact u1)),(Int.ediv_nonneg v0 (by omega)),(Int.ediv_lt_of_lt_mul (by omega) (by rw [<- hpn];exact v1)),(by omega),(by rw [Int.mul_assoc,Int.mul_comm f.P,<- hpn];exact hwq),(by omega),(by rw [<- ht,hsu,Int.mul_add,<- Int.mul_assoc,Int.mul_comm pl ((u%f.P+v%f.P)%f.P)];omega)⟩ (by dsimp only;omega) (A_J ⟨rfl,rfl,rfl,rfl,rfl,trivial⟩ rfl)
 refine A_e ?_
 refine A_0 K7 ?_
 refine esk rfl ?_
 refine A_Q ?_
 exact retR1 (.inr rfl) results76 (A_L (A_S rfl (A_Z (by have hu:u=0:=(by omega);have hv:v=0:=(by omega);rw [<- ht,hu,hv,wadd_zero,Int.mul_zero];omega))))

end Go.Proofs.Ytaipghchkamajaa

