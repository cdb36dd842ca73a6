/-
  Walks of functions of the program and the reference.
-/
import Derived.Test.YtcilbmggiahciaaGreatZ6
open Go Go.Cw
namespace Go.Proofs.YtcilbmggiahciaaGreat
open Tryz
set_option maxRecDepth 100000
set_option linter.unusedVariables false
set_option linter.unusedSimpArgs false
theorem Mul_ok (f:Fld) (x y:Int) (hF:FOk f):Ctr Tryz.prog 69 [aGF f,aInt x,aInt y] (aInt (mulF f x y)):=by
 have hS:=hF.1
 have hb:=hS.bd
 have hix:=inF_lt hS x
 have hiy:=inF_lt hS y
 have hE:=hF.exp_good
 have hL:=length_logsTo f (f.q-1)
 change f.logs.length=_ at hL
 refine A_p Tryz.call69 func69 rfl rfl ?_
 intro w O
 refine ent_lenP 0 4 rfl rfl (fun hlen0_4=>?_)
 refine ent_lenP 0 5 rfl rfl (fun hlen0_5=>?_)
 refine esk rfl ?_
 refine esr rfl fun _ K2=>?_
 refine A_A rfl (A_S (in_ok f x) rfl) ?_
 refine emm rfl ?_
 refine A_A rfl (A_S (in_ok f y) rfl) ?_
 refine emm rfl ?_
 refine enk K2 ?_
 refine A_C fun _ K3=>?_
 refine A_C fun _ K4=>?_
 refine ent_cut (⟨[(0,aGF f),(1,aInt (inF f x)),(2,aInt (inF f y)),(18,aBool (decide (((inF f x)=0)\/((inF f y)=0))))],[]⟩) ?_ ?_
 ·refine A_D ?_
  refine emm rfl ?_
  refine A_A rfl (ok_eql rfl rfl) ?_
  refine emm rfl ?_
  refine A_v rfl rfl rfl rfl (fun hg15=>?_) (fun hg15=>?_)
  ·refine emm rfl ?_
   refine A_M rfl rfl rfl rfl (decide_eq_false hg15) ?_
   refine A_A rfl (ok_eql rfl rfl) ?_
   refine A_A rfl (A_r rfl (decide_eq_false hg15) rfl) ?_
   refine A_O ?_
   exact A_I ⟨rfl,rfl,rfl,A_Z (dq_Q ((or_iff_right hg15).trans Iff.rfl)),trivial⟩ rfl
  refine A_G rfl rfl rfl rfl (decide_eq_true hg15) ?_
  refine A_A rfl (A_l rfl (decide_eq_true hg15) rfl) ?_
  refine A_O ?_
  exact A_I ⟨rfl,rfl,rfl,A_Z (dq_T rfl (Or.inl hg15)),trivial⟩ rfl
 refine A_s K4 ?_
 refine A_E rfl (fun h18=>?_) (fun h18=>?_)
 ·refine esk rfl ?_
  refine A_R ?_
  exact retR1 (.inr rfl) results69 (A_H (A_T rfl (A_a (by exact (mulF_zero hS h18).symm))))
 have hlx:=hF.log (c:=inF f x) (by omega) hix.2
 have hly:=hF.log (c:=inF f y) (by omega) hiy.2
 have hm:=Int.emod_nonneg (ix 0 f.logs (inF f x)+ix 0 f.logs (inF f y)) (show f.q-1≠0 by omega)
 have hm2:=Int.emod_lt_of_pos (ix 0 f.logs (inF f x)+ix 0 f.logs (inF f y)) (show 0<f.q-1 by omega)
 refine esp K3 ?_
 refine A_C fun _ K6=>?_
 refine A_t 28 mixed (by kernel_rfl) (drawQ_F (by kernel_rfl)) (by kernel_rfl) ?_
 refine dw_o rfl (A_J rfl) ?_
 refine dw_o rfl (A_q rfl) ?_
 refine dw_o rfl (A_f runUnderlying116 rfl sizeOf22 rfl rfl) ?_
 refine dw_o rfl (A_V ti22 rfl) ?_
 refine dw_o rfl (A_J rfl) ?_
 refine dw_o rfl (A_q rfl) ?_
 refine dw_o rfl (A_f runUnderlying116 rfl sizeOf22 rfl rfl) ?_
 refine dw_o rfl (A_V ti22 rfl) ?_
 refine dw_o rfl (A_J rfl) ?_
 refine dw_o rfl (A_d 0 sl22 rfl rfl (by omega) (by omega)) ?_
 refine dw_o rfl (A_V ti3 rfl) ?_
 refine dw_o rfl (A_J rfl) ?_
 refine dw_o rfl (A_q rfl) ?_
 refine dw_o rfl (A_f runUnderlying116 rfl sizeOf22 rfl rfl) ?_
 refine dw_o rfl (A_V ti22 rfl) ?_
 refine dw_o rfl (A_J rfl) ?_
 refine dw_o rfl (A_d 0 sl22 rfl rfl (by omega) (by omega)) ?_
 refine dw_o rfl (A_V ti3 rfl) ?_
 refine dw_o rfl (A_m rfl rfl (by omega) (by omega)) ?_
 refine dw_o rfl (A_J rfl) ?_
 refine dw_o rfl (A_q rfl) ?_
 refine dw_o rfl (A_f runUnderlying116 rfl sizeOf3 rfl rfl) ?_
 refine dw_o rfl (A_V ti3 rfl) ?_
 refine dw_o rfl (ok_sub rfl rfl (by omega) (by omega)) ?_
 refine dw_o rfl (ok_rem rfl rfl (by omega) (by omega)) ?_
 refine dw_o rfl (A_d 0 sl22 rfl rfl (by omega) (by omega)) ?_
 refine dw_o rfl (A_V ti3 rfl) ?_
 refine dw_o rfl (ok_assign rfl) ?_
 refine dw_nil ?_
 refine enk K6 ?_
 refine A_R ?_
 exact retR1 (.inr rfl) results69 (A_H (A_T rfl (A_a (by exact hF.mul_log (by omega) hix.2 (by omega) hiy.2))))

theorem Add_ok (f:Fld) (x y:Int) (hF:FOk f):Ctr Tryz.prog 61 [aGF f,aInt x,aInt y] (aInt (addF f x y)):=by
 have hS:=hF.1
 have hb:=hS.bd
 have hix:=inF_lt hS x
 have hiy:=inF_lt hS y
 have hsl:=hS.addF_lt x y
 have hw:addF f x y=wadd f.P f.M.toNat (inF f x) (inF f y):=hS.addc_wadd _ _
 refine A_p Tryz.call61 func61 rfl rfl ?_
 intro w O
 refine ent_lenP 0 4 rfl rfl (fun hlen0_4=>?_)
 refine ent_lenP 0 5 rfl rfl (fun hlen0_5=>?_)
 refine esk rfl ?_
 refine esr rfl fun _ K2=>?_
 refine A_A rfl (A_S (in_ok f x) rfl) ?_
 refine emm rfl ?_
 refine A_A rfl (A_S (in_ok f y) rfl) ?_
 refine emm rfl ?_
 refine enk K2 ?_
 refine A_C fun _ K3=>?_
 refine esr rfl fun _ K4=>?_
 refine A_A rfl (A_q rfl) ?_
 refine A_A rfl (ok_fieldAddrS runUnderlying116 rfl sizeOf24 (by decide) (Nat.le_of_ble_eq_true rfl) rfl) ?_
 refine A_A rfl (A_f runUnderlying24 rfl sizeOf3 rfl rfl) ?_
 refine A_A rfl (A_V ti3 rfl) ?_
 refine A_A rfl (ok_eql rfl rfl) ?_
 refine enk K4 ?_
 refine A_E rfl (fun h20=>?_) (fun h20=>?_)
 ·refine esr rfl fun _ K5=>?_
  refine A_A rfl (ok_xor rfl rfl (by omega) (by omega) (by omega) (by omega)) ?_
  refine emm rfl ?_
  refine enk K5 ?_
  refine A_R ?_
  exact retR1 (.inr rfl) results61 (A_H (A_T rfl (A_a (by exact hS.addF_xor h20 x y))))
 refine esp K3 ?_
 refine esk rfl ?_
 refine A_C fun _ K7=>?_
 refine A_K ?_
 refine A_g (fun (ss:Int×Int×Int×Int×Nat)=>match ss with | (u,v,t,pl,n)=>(⟨[(0,aGF f),(1,aInt u),(2,aInt v),(7,aInt t),(8,aInt pl)],[]⟩:St)) (fun (ss:Int×Int×Int×Int×Nat)=>match ss with | (u,v,t,pl,n)=>(0<=u)/\(u<f.P^n)/\(0<=v)/\(v<f.P^n)/\(1<=pl)/\(pl*f.P^n=f.q)/\(0<=t)/\(t+pl*wadd f.P n u v=addF f x y)) (fun (ss:Int×Int×Int×Int×Nat)=>match ss with | (u,v,t,pl,n)=>n) (inF f x,inF f y,0,1,f.M.toNat) ⟨(by omega),(by omega),(by omega),(by omega),(by omega),(by omega),(by omega),(by rw [hw];omega)⟩ (A_I ⟨rfl,rfl,rfl,A_W (A_i (show 0=(0:Int) by rfl)),A_W (A_i (show 1=(1:Int) by rfl)),trivial⟩ rfl) ?_
 rintro ⟨u,v,t,pl,n⟩ ⟨u0,u1,v0,v1,w0,hwq,t0,ht⟩
 show Ent _ ⟨_,[]⟩ _
 refine A_C fun _ K8=>?_
 refine A_C fun _ K9=>?_
 refine ent_cut (⟨[(0,aGF f),(1,aInt u),(2,aInt v),(7,aInt t),(8,aInt pl),(29,aBool (decide ((0<u)\/(0<v))))],[]⟩) ?_ ?_
 ·refine A_D ?_
  refine emm rfl ?_
  refine A_A rfl (ok_gtr rfl rfl) ?_
  refine emm rfl ?_
  refine A_v rfl rfl rfl rfl (fun hg26=>?_) (fun hg26=>?_)
  ·refine emm rfl ?_
   refine A_M rfl rfl rfl rfl (decide_eq_false hg26) ?_
   refine A_A rfl (ok_gtr rfl rfl) ?_
   refine A_A rfl (A_r rfl (decide_eq_false hg26) rfl) ?_
   refine A_O ?_
   exact A_I ⟨rfl,rfl,rfl,rfl,rfl,A_Z (dq_Q ((or_iff_right hg26).trans Iff.rfl)),trivial⟩ rfl
  refine A_G rfl rfl rfl rfl (decide_eq_true hg26) ?_
  refine A_A rfl (A_l rfl (decide_eq_true hg26) rfl) ?_
  refine A_O ?_
  exact A_I ⟨rfl,rfl,rfl,rfl,rfl,A_Z (dq_T rfl (Or.inl hg26)),trivial⟩ rfl
 refine A_s K9 ?_
 refine A_E rfl (fun h29=>?_) (fun h29=>?_)
 ·have hn:1<=n:=by
   by_cases hn0:n=0
   ·subst hn0;simp at u1 v1;omega
   omega
  have hpn:f.P^n=f.P^(n-1)*f.P:=by conv=>lhs;rw [show n=n-1+1 by omega,Int.pow_succ]
  have hpp:=pow_pos_of f.P hb.1 n
  have hpp1:=pow_pos_of f.P hb.1 (n-1)
  have hsu:=wadd_succ f.P hn u v
  have hwl:pl<=f.q:=by have:=Int.mul_le_mul_of_nonneg_left hpp (show 0<=pl by omega);omega
  have hwp:pl*f.P<=f.q:=by rw [<- hwq,hpn];have:=Int.mul_le_mul_of_nonneg_left hpp1 (show 0<=pl*f.P by exact Int.mul_nonneg (by omega) (by omega));rw [Int.mul_one,Int.mul_assoc,Int.mul_comm f.P] at this;exact this
  have hwp1:pl<=pl*f.P:=by have:=Int.mul_le_mul_of_nonneg_left (show (1:Int)<=f.P by omega) (show 0<=pl by omega);omega
  have hd0:=Int.emod_nonneg u (show f.P≠0 by omega)
  have hd1:=Int.emod_lt_of_pos u (show 0<f.P by omega)
  have hd2:=Int.emod_nonneg v (show f.P≠0 by omega)
  have hd3:=Int.emod_lt_of_pos v (show 0<f.P by omega)
  have hd4:=Int.emod_nonneg (u%f.P+v%f.P) (show f.P≠0 by omega)
  have hd5:=Int.emod_lt_of_pos (u%f.P+v%f.P) (show 0<f.P by omega)
  have hm:=mul_small hd4 (by omega) (show 0<=pl by omega) (by omega)
  have hwn:=wadd_nonneg f.P hb.1 n u v
  have htl:t<=256:=by have:=Int.mul_nonneg (show 0<=pl by omega) hwn;omega
  have hul:u<=256:=by have:=pow_le_q hwq w0 hpp;omega
  have hvl:v<=256:=by have:=pow_le_q hwq w0 hpp;omega
  refine esp K8 ?_
  refine A_K ?_
  refine A_C fun _ K10=>?_
  refine A_t 26 mixed (by kernel_rfl) (drawQ_F (by kernel_rfl)) (by kernel_rfl) ?_
  refine dw_o rfl (A_J rfl) ?_
  refine dw_o rfl (A_J rfl) ?_
  refine dw_o rfl (A_J rfl) ?_
  refine dw_o rfl (A_q rfl) ?_
  refine dw_o rfl (ok_fieldAddrS runUnderlying116 rfl sizeOf24 (by decide) (Nat.le_of_ble_eq_true rfl) rfl) ?_
  refine dw_o rfl (A_f runUnderlying24 rfl sizeOf3 rfl rfl) ?_
  refine dw_o rfl (A_V ti3 rfl) ?_
  refine dw_o rfl (ok_rem rfl rfl (by omega) (by omega)) ?_
  refine dw_o rfl (A_J rfl) ?_
  refine dw_o rfl (A_J rfl) ?_
  refine dw_o rfl (A_q rfl) ?_
  refine dw_o rfl (ok_fieldAddrS runUnderlying116 rfl sizeOf24 (by decide) (Nat.le_of_ble_eq_true rfl) rfl) ?_
  refine dw_o rfl (A_f runUnderlying24 rfl sizeOf3 rfl rfl) ?_
  refine dw_o rfl (A_V ti3 rfl) ?_
  refine dw_o rfl (ok_rem rfl rfl (by omega) (by omega)) ?_
  refine dw_o rfl (A_m rfl rfl (by omega) (by omega)) ?_
  refine dw_o rfl (A_J rfl) ?_
  refine dw_o rfl (A_q rfl) ?_
  refine dw_o rfl (ok_fieldAddrS runUnderlying116 rfl sizeOf24 (by decide) (Nat.le_of_ble_eq_true rfl) rfl) ?_
  refine dw_o rfl (A_f runUnderlying24 rfl sizeOf3 rfl rfl) ?_
  refine dw_o rfl (A_V ti3 rfl) ?_
  refine dw_o rfl (ok_rem rfl rfl (by omega) (by omega)) ?_
  refine dw_o rfl (A_J rfl) ?_
  refine dw_o rfl (ok_mul rfl rfl (by omega) (by omega)) ?_
  refine dw_o rfl (A_m rfl rfl (by omega) (by omega)) ?_
  refine dw_o rfl (ok_assign rfl) ?_
  refine dw_nil ?_
  refine enk K10 ?_
  refine esr rfl fun _ K11=>?_
  refine A_A rfl (A_q rfl) ?_
  refine A_A rfl (ok_fieldAddrS runUnderlying116 rfl sizeOf24 (by decide) (Nat.le_of_ble_eq_true rfl) rfl) ?_
  refine A_A rfl (A_f runUnderlying24 rfl sizeOf3 rfl rfl) ?_
  refine A_A rfl (A_V ti3 rfl) ?_
  refine A_A rfl (ok_mul rfl rfl (by omega) (by omega)) ?_
  refine emm rfl ?_
  refine enk K11 ?_
  refine esr rfl fun _ K12=>?_
  refine A_A rfl (A_q rfl) ?_
  refine A_A rfl (ok_fieldAddrS runUnderlying116 rfl sizeOf24 (by decide) (Nat.le_of_ble_eq_true rfl) rfl) ?_
  refine A_A rfl (A_f runUnderlying24 rfl sizeOf3 rfl rfl) ?_
  refine A_A rfl (A_V ti3 rfl) ?_
  refine A_A rfl (ok_quo rfl rfl (by omega) (by omega) (by omega)) ?_
  refine emm rfl ?_
  refine enk K12 ?_
  refine A_D ?_
  refine emm rfl ?_
  refine A_A rfl (A_q rfl) ?_
  refine A_A rfl (ok_fieldAddrS runUnderlying116 rfl sizeOf24 (by decide) (Nat.le_of_ble_eq_true rfl) rfl) ?_
  refine A_A rfl (A_f runUnderlying24 rfl sizeOf3 rfl rfl) ?_
  refine A_A rfl (A_V ti3 rfl) ?_
  refine A_A rfl (ok_quo rfl rfl (by omega) (by omega) (by omega)) ?_
  refine emm rfl ?_
  refine A_O ?_
  refine A_X (s:=(u,v,t,pl,n)) (u/f.P,v/f.P,t+((((u%f.P)+(v%f.P))%f.P)*pl),pl*f.P,n-1) ⟨(Int.ediv_nonneg u0 (by omega)),(Int.ediv_lt_of_lt_mul (by omega) (by rw [<- hpn];exact u1)),(Int.ediv_nonneg v0 (by omega)),(Int.ediv_lt_of_lt_mul (by omega) (by rw [<- hpn];exact v1)),(by omega),(by rw [Int.mul_assoc,Int.mul_comm f.P,<- hpn];exact hwq),(by omega),(by rw [<- ht,hsu,Int.mul_add,<- Int.mul_assoc,Int.mul_comm pl ((u%f.P+v%f.P)%f.P)];omega)⟩ (by dsimp only;omega) (A_I ⟨rfl,rfl,rfl,rfl,rfl,trivial⟩ rfl)
 refine A_e ?_
 refine A_s K7 ?_
 refine esk rfl ?_
 refine A_R ?_
 exact retR1 (.inr rfl) results61 (A_H (A_T rfl (A_a (by have hu:u=0:=(by omega);have hv:v=0:=(by omega);rw [<- ht,hu,hv,wadd_zero,Int.mul_zero];omega))))

theorem Dot_ok (f:Fld) (a b:List Int) (hF:FOk f):Ctr Tryz.prog 94 [aGF f,aSl 1 false aInt a,aSl 1 false aInt b] (aInt (dotF f a b)):=by
 refine A_p Tryz.call94 func94 rfl rfl ?_
 intro w O
 refine ent_lenP 0 4 rfl rfl (fun hlen0_4=>?_)
 refine ent_lenP 0 5 rfl rfl (fun hlen0_5=>?_)
 refine A_x 1 rfl (fun hlen1=>?_)
 refine A_x 2 rfl (fun hlen2=>?_)
 refine esk rfl ?_
 refine esk rfl ?_
 refine A_C fun _ K3=>?_
 refine esr rfl fun _ K4=>?_
 refine A_A rfl (A_z rfl runUnderlying22 rfl) ?_
 refine emm rfl ?_
 refine A_A rfl (A_z rfl runUnderlying22 rfl) ?_
 refine A_A rfl (ok_min rfl rfl) ?_
 refine emm rfl ?_
 refine enk K4 ?_
 refine A_K ?_
 refine A_g (fun (i:Int)=>(⟨[(0,aGF f),(1,aSl 1 false aInt a),(2,aSl 1 false aInt b),(7,aInt (dotTo f a b i.toNat)),(13,aInt (min (↑a.length:Int) (↑b.length:Int))),(14,aInt i)],[]⟩:St)) (fun (i:Int)=>(0<=i)/\(i<=min (a.length:Int) (b.length:Int))) (fun (i:Int)=>(min (a.length:Int) (b.length:Int)-i).toNat) 0 ⟨(by omega),(by omega)⟩ (A_I ⟨rfl,rfl,rfl,A_W (A_i (show 0=dotTo f a b (0:Int).toNat by rfl)),rfl,A_W (A_i (show 0=(0:Int) by rfl)),trivial⟩ rfl) ?_
 rintro i ⟨h0,h1⟩
 show Ent _ ⟨_,[]⟩ _
 refine esr rfl fun _ K5=>?_
 refine A_A rfl (A_o rfl rfl) ?_
 refine enk K5 ?_
 refine A_C fun _ K6=>?_
 refine A_E rfl (fun h15=>?_) (fun h15=>?_)
 ·refine esp K6 ?_
  refine A_C fun _ K7=>?_
  refine A_K ?_
  refine esk rfl ?_
  refine A_t 14 mixed (by kernel_rfl) (by kernel_rfl) (by kernel_rfl) ?_
  refine dw_o rfl (A_J rfl) ?_
  refine dw_o rfl (A_J rfl) ?_
  refine dw_o rfl (A_J rfl) ?_
  refine dw_o rfl (A_J rfl) ?_
  refine dw_o rfl (A_J rfl) ?_
  refine dw_o rfl (A_d 0 sl22 rfl rfl (by omega) (by omega)) ?_
  refine dw_o rfl (A_V ti3 rfl) ?_
  refine dw_o rfl (A_J rfl) ?_
  refine dw_o rfl (A_J rfl) ?_
  refine dw_o rfl (A_d 0 sl22 rfl rfl (by omega) (by omega)) ?_
  refine dw_o rfl (A_V ti3 rfl) ?_
  refine dw_o rfl (A_S (Mul_ok f (ix 0 a i) (ix 0 b i) ‹_›) rfl) ?_
  refine dw_o rfl (A_S (Add_ok f (dotTo f a b i.toNat) (mulF f (ix 0 a i) (ix 0 b i)) ‹_›) rfl) ?_
  refine dw_o rfl (ok_assign rfl) ?_
  refine dw_nil ?_
  refine enk K7 ?_
  refine A_D ?_
  refine A_A rfl (A_m rfl rfl (by omega) (by omega)) ?_
  refine emm rfl ?_
  refine A_O ?_
  refine A_X (s:=(i)) (i+1) ⟨(by omega),‹_›⟩ (by omega) (A_I ⟨rfl,rfl,rfl,A_W (A_i (show addF f (dotTo f a b i.toNat) (mulF f (ix 0 a i) (ix 0 b i))=dotTo f a b (i+1).toNat by exact (dotTo_succ f a b h0).symm)),rfl,rfl,trivial⟩ rfl)
 refine A_e ?_
 refine A_s K3 ?_
 refine esk rfl ?_
 refine A_R ?_
 exact retR1 (.inr rfl) results94 (A_H (A_T rfl (A_a (by unfold dotF;congr 1;omega))))

theorem rAdd_ok (f:Fld) (x y:Int) (hS:Shape f):Ctr Tryz.prog 40 [aFld f,aInt x,aInt y] (aInt (addF f x y)):=by
 have hb:=hS.bd
 have hP:=hS.pI
 have hN:=hS.mN
 have lx:=length_digS f.P f.M.toNat (inF f x)
 have ly:=length_digS f.P f.M.toNat (inF f y)
 have ld:=length_dadd f.P f.M.toNat (inF f x) (inF f y)
 refine A_p Tryz.call40 func40 rfl rfl ?_
 intro w O
 refine A_Y 0 2 rfl rfl (fun hlen0_2=>?_)
 refine esr rfl fun _ K1=>?_
 refine A_h rfl rfl (AllOne.mem ⟨(A_F _),(A_F _),A_c,trivial⟩) (fun b3_1=>?_)
 refine emm rfl ?_
 refine enk K1 ?_
 refine esr rfl fun _ K2=>?_
 refine A_A rfl (A_P (k:=0) ti24 rfl rfl rfl) ?_
 refine emm rfl ?_
 refine ent_callV [] rfl (rDigits_ok f x ‹_›) (ArgsA.ok ⟨arg_a rfl (cv_id (sub_lent _)),arg_a rfl (cv_id (sub_lent _)),trivial⟩) (fun r12 c12=>?_)
 refine ent_rsome 0 rfl (by omega) (fun b12_2 hb12_2=>?_)
 subst hb12_2
 refine emm rfl ?_
 refine enk K2 ?_
 refine esr rfl fun _ K3=>?_
 refine A_A rfl (A_P (k:=1) ti24 rfl rfl rfl) ?_
 refine emm rfl ?_
 refine A_A rfl (A_S (CtrF.ctr (CtrF.sl (rDigits_ok f y ‹_›))) rfl) ?_
 refine emm rfl ?_
 refine enk K3 ?_
 refine A_C fun _ K4=>?_
 refine esk rfl ?_
 refine A_K ?_
 refine A_g (fun (i:Int)=>(⟨[(3,aEx (.pointer (some ⟨b3_1,0,none⟩))),(7,aEx (vec (some b12_2) ((digS f.P f.M.toNat (inF f x)).length) c12)),(8,aSl 1 false aInt (digS f.P f.M.toNat (inF f y))),(9,aInt i)],[oVec (some b12_2) c12 3 1 false aInt (mixL (dadd f.P f.M.toNat (inF f x) (inF f y)) (digS f.P f.M.toNat (inF f x)) i),oBox b3_1 24 [aInt f.P,aInt f.M,aSl 1 false aInt f.mod]]⟩:St)) (fun (i:Int)=>(0<=i)/\(i<=f.M)) (fun (i:Int)=>(f.M-i).toNat) 0 ⟨(by omega),(by omega)⟩ (A_I ⟨rfl,rfl,rfl,A_W (A_i (show 0=(0:Int) by rfl)),trivial⟩ (A_N (A_n (show mixL (dadd f.P f.M.toNat (inF f x) (inF f y)) (digS f.P f.M.toNat (inF f x)) (0:Int)=digS f.P f.M.toNat (inF f x) by exact mixL_zero _ _)) (rfl))) ?_
 rintro i ⟨h0,h1⟩
 show Ent _ ⟨_,[_,_]⟩ _
 have lm:=length_mixL (dadd f.P f.M.toNat (inF f x) (inF f y)) (digS f.P f.M.toNat (inF f x)) (i:=i) (by omega)
 refine A_C fun _ K6=>?_
 refine esr rfl fun _ K7=>?_
 refine A_A rfl (ok_lenEx rfl runUnderlying22 rfl) ?_
 refine A_A rfl (A_o rfl rfl) ?_
 refine enk K7 ?_
 refine A_E rfl (fun h19=>?_) (fun h19=>?_)
 ·have hdx:=hS.dig_ix (inF f x) h0 (show i<f.M by omega)
  have hdy:=hS.dig_ix (inF f y) h0 (show i<f.M by omega)
  have hmi:=ix_mixL (dadd f.P f.M.toNat (inF f x) (inF f y)) (digS f.P f.M.toNat (inF f x)) h0 (by omega) (by omega)
  have hvv:(ix 0 (mixL (dadd f.P f.M.toNat (inF f x) (inF f y)) (digS f.P f.M.toNat (inF f x)) i) i+ix 0 (digS f.P f.M.toNat (inF f y)) i)%f.P=ix 0 (dadd f.P f.M.toNat (inF f x) (inF f y)) i:=by rw [hmi];exact (ix_dadd f.P _ _ _ h0 (by omega)).symm
  refine esp K6 ?_
  refine A_C fun _ K8=>?_
  refine A_K ?_
  refine A_t 15 mixed (by kernel_rfl) (by kernel_rfl) (by kernel_rfl) ?_
  refine dw_o rfl (A_J rfl) ?_
  refine dw_o rfl (A_J rfl) ?_
  refine dw_o rfl (A_J rfl) ?_
  refine dw_o rfl (A_J rfl) ?_
  refine dw_o rfl (A_k sl22 rfl rfl (by omega) (by omega)) ?_
  refine dw_o rfl (ok_loadV (k:=0) 0 ti3 rfl rfl (by omega) (by omega)) ?_
  refine dw_o rfl (A_J rfl) ?_
  refine dw_o rfl (A_J rfl) ?_
  refine dw_o rfl (A_d 0 sl22 rfl rfl (by omega) (by omega)) ?_
  refine dw_o rfl (A_V ti3 rfl) ?_
  refine dw_o rfl (A_m rfl rfl (by omega) (by omega)) ?_
  refine dw_o rfl (A_B runUnderlying24 rfl sizeOf3 (by decide) rfl) ?_
  refine dw_o rfl (A_L (k:=1) isAgg3 rfl rfl rfl) ?_
  refine dw_o rfl (ok_rem rfl rfl (by omega) (by omega)) ?_
  refine dw_o rfl (A_k sl22 rfl rfl (by omega) (by omega)) ?_
  refine dw_nil ?_
  refine ent_storeV (k:=0) (z:=((ix 0 (mixL (dadd f.P f.M.toNat (inF f x) (inF f y)) (digS f.P f.M.toNat (inF f x)) i) i)+(ix 0 (digS f.P f.M.toNat (inF f y)) i))%f.P) ti3 rfl rfl rfl (A_u (A_F _)) (by omega) (by omega) ?_
  refine enk K8 ?_
  refine A_D ?_
  refine emm rfl ?_
  refine A_A rfl (A_m rfl rfl (by omega) (by omega)) ?_
  refine emm rfl ?_
  refine A_O ?_
  refine A_X (s:=(i)) (i+1) ⟨(by omega),(by omega)⟩ (by omega) (A_I ⟨rfl,rfl,rfl,rfl,trivial⟩ (A_N (A_n (show mixL (dadd f.P f.M.toNat (inF f x) (inF f y)) (digS f.P f.M.toNat (inF f x)) (i+1)=List.set (mixL (dadd f.P f.M.toNat (inF f x) (inF f y)) (digS f.P f.M.toNat (inF f x)) i) (i).toNat (((ix 0 (mixL (dadd f.P f.M.toNat (inF f x) (inF f y)) (digS f.P f.M.toNat (inF f x)) i) i)+(ix 0 (digS f.P f.M.toNat (inF f y)) i))%f.P) by exact (mixL_set _ _ h0 (by omega) (by omega) hvv).symm)) (rfl)))
 have hme:=mixL_all (dadd f.P f.M.toNat (inF f x) (inF f y)) (digS f.P f.M.toNat (inF f x)) (i:=i) (by omega) (by omega)
 have hdm:∀c∈dadd f.P f.M.toNat (inF f x) (inF f y),0<=c/\c<f.P:=dadd_mem f.P hb.1 _ _ _
 have hdl:f.P^(dadd f.P f.M.toNat (inF f x) (inF f y)).length<=256:=by rw [ld];omega
 rw [<- hme] at hdm hdl
 refine A_e ?_
 refine A_s K4 ?_
 refine esr rfl fun _ K9=>?_
 refine A_A rfl (A_P (k:=1) ti24 rfl rfl rfl) ?_
 refine emm rfl ?_
 refine A_A rfl (ok_callP [0] (by exact pl_ex) (rValue_ok f (mixL (dadd f.P f.M.toNat (inF f x) (inF f y)) (digS f.P f.M.toNat (inF f x)) i) (by omega) ‹_› ‹_›) ⟨arg_a rfl (cv_id (sub_lent _)),arg_a rfl (cv_vec (k:=0) (off_lent rfl (by decide)) (by simp_all) rfl),trivial⟩) ?_
 refine emm rfl ?_
 refine enk K9 ?_
 refine A_R ?_
 exact retR1 (.inr rfl) results40 (A_H (A_T rfl (A_a (by rw [hme,valS_dadd];exact (hS.addc_wadd _ _).symm))))

end Go.Proofs.YtcilbmggiahciaaGreat

