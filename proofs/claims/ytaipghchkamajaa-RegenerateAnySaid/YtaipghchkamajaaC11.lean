/-
  Walks of functions of the program and the reference.
-/
import Derived.Test.YtaipghchkamajaaA10
import Derived.Test.YtaipghchkamajaaB1
open Go Go.Cw
namespace Go.Proofs.Ytaipghchkamajaa
open Try
set_option maxRecDepth 100000
set_option linter.unusedVariables false
set_option linter.unusedSimpArgs false
theorem Neg_ok (f:Fld) (x:Int) (hF:FOk f):Ctr Try.prog 125 [aGF f,aInt x] (aInt (negF f x)):=by
 have hS:=hF.1
 have hb:=hS.bd
 have hix:=inF_lt hS x
 have hsl:=hS.negF_lt x
 have hw:negF f x=wneg f.P f.M.toNat (inF f x):=hS.negc_wneg _
 refine ctr_of Try.call125 func125 rfl rfl ?_
 intro w O
 refine A_q 0 4 rfl rfl (fun hlen0_4=>?_)
 refine A_q 0 5 rfl rfl (fun hlen0_5=>?_)
 refine esk rfl ?_
 refine esr rfl fun _ K2=>?_
 refine A_A rfl (A_W (in_ok f x) rfl) ?_
 refine emm rfl ?_
 refine enk K2 ?_
 refine esk rfl ?_
 refine A_C fun _ K4=>?_
 refine A_K ?_
 refine A_d (fun (ss:Int×Int×Int×Nat)=>match ss with | (u,t,pl,n)=>(⟨[(0,aGF f),(1,aInt u),(5,aInt t),(6,aInt pl)],[]⟩:St)) (fun (ss:Int×Int×Int×Nat)=>match ss with | (u,t,pl,n)=>(0<=u)/\(u<f.P^n)/\(1<=pl)/\(pl*f.P^n=f.q)/\(0<=t)/\(t+pl*wneg f.P n u=negF f x)) (fun (ss:Int×Int×Int×Nat)=>match ss with | (u,t,pl,n)=>n) (inF f x,0,1,f.M.toNat) ⟨(by omega),(by omega),(by omega),(by omega),(by omega),(by rw [hw];omega)⟩ (A_J ⟨rfl,rfl,A_V (A_p (show 0=(0:Int) by rfl)),A_V (A_p (show 1=(1:Int) by rfl)),trivial⟩ rfl) ?_
 rintro ⟨u,t,pl,n⟩ ⟨u0,u1,w0,hwq,t0,ht⟩
 show Ent _ ⟨_,[]⟩ _
 refine A_C fun _ K5=>?_
 refine esr rfl fun _ K6=>?_
 refine A_A rfl (ok_gtr rfl rfl) ?_
 refine enk K6 ?_
 refine A_G rfl (fun h11=>?_) (fun h11=>?_)
 ·have hn:1<=n:=by
   by_cases hn0:n=0
   ·subst hn0;simp at u1;omega
   omega
  have hpn:f.P^n=f.P^(n-1)*f.P:=by conv=>lhs;rw [show n=n-1+1 by omega,Int.pow_succ]
  have hpp:=pow_pos_of f.P hb.1 n
  have hpp1:=pow_pos_of f.P hb.1 (n-1)
  have hsu:=wneg_succ f.P hn u
  have hwl:pl<=f.q:=by have:=Int.mul_le_mul_of_nonneg_left hpp (show 0<=pl by omega);omega
  have hwp:pl*f.P<=f.q:=by rw [<- hwq,hpn];have:=Int.mul_le_mul_of_nonneg_left hpp1 (show 0<=pl*f.P by exact Int.mul_nonneg (by omega) (by omega));rw [Int.mul_one,Int.mul_assoc,Int.mul_comm f.P] at this;exact this
  have hwp1:pl<=pl*f.P:=by have:=Int.mul_le_mul_of_nonneg_left (show (1:Int)<=f.P by omega) (show 0<=pl by omega);omega
  have hd0:=Int.emod_nonneg u (show f.P≠0 by omega)
  have hd1:=Int.emod_lt_of_pos u (show 0<f.P by omega)
  have hd4:=Int.emod_nonneg (f.P-u%f.P) (show f.P≠0 by omega)
  have hd5:=Int.emod_lt_of_pos (f.P-u%f.P) (show 0<f.P by omega)
  have hm:=mul_small hd4 (by omega) (show 0<=pl by omega) (by omega)
  have hwn:=wneg_nonneg f.P hb.1 n u
  have htl:t<=256:=by have:=Int.mul_nonneg (show 0<=pl by omega) hwn;omega
  have hul:u<=256:=by have:=pow_le_q hwq w0 hpp;omega
  refine esp K5 ?_
  refine A_K ?_
  refine A_C fun _ K7=>?_
  refine A_w 24 mixed (by kernel_rfl) (by kernel_rfl) (by kernel_rfl) ?_
  refine dw_o rfl (A_D rfl) ?_
  refine dw_o rfl (A_D rfl) ?_
  refine dw_o rfl (A_b rfl) ?_
  refine dw_o rfl (A_k runUnderlying130 rfl sizeOf51 (by decide) (Nat.le_of_ble_eq_true rfl) rfl) ?_
  refine dw_o rfl (A_Y runUnderlying51 rfl sizeOf3 rfl rfl) ?_
  refine dw_o rfl (A_P ti3 rfl) ?_
  refine dw_o rfl (A_D rfl) ?_
  refine dw_o rfl (A_D rfl) ?_
  refine dw_o rfl (A_b rfl) ?_
  refine dw_o rfl (A_k runUnderlying130 rfl sizeOf51 (by decide) (Nat.le_of_ble_eq_true rfl) rfl) ?_
  refine dw_o rfl (A_Y runUnderlying51 rfl sizeOf3 rfl rfl) ?_
  refine dw_o rfl (A_P ti3 rfl) ?_
  refine dw_o rfl (ok_rem rfl rfl (by omega) (by omega)) ?_
  refine dw_o rfl (ok_sub rfl rfl (by omega) (by omega)) ?_
  refine dw_o rfl (A_D rfl) ?_
  refine dw_o rfl (A_b rfl) ?_
  refine dw_o rfl (A_k runUnderlying130 rfl sizeOf51 (by decide) (Nat.le_of_ble_eq_true rfl) rfl) ?_
  refine dw_o rfl (A_Y runUnderlying51 rfl sizeOf3 rfl rfl) ?_
  refine dw_o rfl (A_P ti3 rfl) ?_
  refine dw_o rfl (ok_rem rfl rfl (by omega) (by omega)) ?_
  refine dw_o rfl (A_D rfl) ?_
  refine dw_o rfl (ok_mul rfl rfl (by omega) (by omega)) ?_
  refine dw_o rfl (A_n rfl rfl (by omega) (by omega)) ?_
  refine dw_o rfl (ok_assign rfl) ?_
  refine dw_nil ?_
  refine enk K7 ?_
  refine esr rfl fun _ K8=>?_
  refine A_A rfl (A_b rfl) ?_
  refine A_A rfl (A_k runUnderlying130 rfl sizeOf51 (by decide) (Nat.le_of_ble_eq_true rfl) rfl) ?_
  refine A_A rfl (A_Y runUnderlying51 rfl sizeOf3 rfl rfl) ?_
  refine A_A rfl (A_P ti3 rfl) ?_
  refine A_A rfl (ok_mul rfl rfl (by omega) (by omega)) ?_
  refine emm rfl ?_
  refine enk K8 ?_
  refine A_H ?_
  refine emm rfl ?_
  refine A_A rfl (A_b rfl) ?_
  refine A_A rfl (A_k runUnderlying130 rfl sizeOf51 (by decide) (Nat.le_of_ble_eq_true rfl) rfl) ?_
  refine A_A rfl (A_Y runUnderlying51 rfl sizeOf3 rfl rfl) ?_
  refine A_A rfl (A_P ti3 rfl) ?_
  refine A_A rfl (ok_quo rfl rfl (by omega) (by omega) (by omega)) ?_
  refine emm rfl ?_
  refine A_O ?_
  refine A_U (s:=(u,t,pl,n)) (u/f.P,t+(((f.P-(u%f.P))%f.P)*pl),pl*f.P,n-1) ⟨(Int.ediv_nonneg u0 (by omega)),(Int.ediv_lt_of_lt_mul (by omega) (by rw [<- hpn];exact u1)),(by omega),(by rw [Int.mul_assoc,Int.mul_comm f.P,<- hpn];exact hwq),(by omega),(by rw [<- ht,hsu,Int.mul_add,<- Int.mul_assoc,Int.mul_comm pl ((f.P-u%f.P)%f.P)];omega)⟩ (by dsimp only;omega) (A_J ⟨rfl,rfl,rfl,rfl,trivial⟩ rfl)
 refine A_e ?_
 refine A_0 K4 ?_
 refine esk rfl ?_
 refine A_Q ?_
 exact retR1 (.inr rfl) results125 (A_L (A_S rfl (A_Z (by have hu:u=0:=(by omega);rw [<- ht,hu,wneg_zero,Int.mul_zero];omega))))

theorem Inv_ok (f:Fld) (x:Int) (hF:FOk f):Ctr Try.prog 126 [aGF f,aInt x] (aTup [aInt (invF f x),aInt (if inF f x=0 then 7 else 0)]):=by
 have hS:=hF.1
 have hb:=hS.bd
 have hix:=inF_lt hS x
 have hE:=hF.exp_good
 have hL:=length_logsTo f (f.q-1)
 change f.logs.length=_ at hL
 refine ctr_of Try.call126 func126 rfl rfl ?_
 intro w O
 refine A_q 0 4 rfl rfl (fun hlen0_4=>?_)
 refine A_q 0 5 rfl rfl (fun hlen0_5=>?_)
 refine esk rfl ?_
 refine esr rfl fun _ K2=>?_
 refine A_A rfl (A_W (in_ok f x) rfl) ?_
 refine emm rfl ?_
 refine enk K2 ?_
 refine A_C fun _ K3=>?_
 refine esr rfl fun _ K4=>?_
 refine A_A rfl (ok_eql rfl rfl) ?_
 refine enk K4 ?_
 refine A_G rfl (fun h10=>?_) (fun h10=>?_)
 ·refine esk rfl ?_
  refine A_Q ?_
  exact retR2 (.inr rfl) results126 (A_L (A_S rfl (A_Z (by exact (invF_zero hF h10).symm)))) (A_L (A_S rfl (A_Z (by rw [if_pos h10]))))
 have hlx:=hF.log (c:=inF f x) (by omega) hix.2
 have hm:=Int.emod_nonneg (f.q-1-ix 0 f.logs (inF f x)) (show f.q-1≠0 by omega)
 have hm2:=Int.emod_lt_of_pos (f.q-1-ix 0 f.logs (inF f x)) (show 0<f.q-1 by omega)
 refine esp K3 ?_
 refine A_C fun _ K6=>?_
 refine A_w 27 mixed (by kernel_rfl) (drawQ_F (by kernel_rfl)) (by kernel_rfl) ?_
 refine dw_o rfl (A_D rfl) ?_
 refine dw_o rfl (A_b rfl) ?_
 refine dw_o rfl (A_Y runUnderlying130 rfl sizeOf29 rfl rfl) ?_
 refine dw_o rfl (A_P ti29 rfl) ?_
 refine dw_o rfl (A_D rfl) ?_
 refine dw_o rfl (A_b rfl) ?_
 refine dw_o rfl (A_Y runUnderlying130 rfl sizeOf3 rfl rfl) ?_
 refine dw_o rfl (A_P ti3 rfl) ?_
 refine dw_o rfl (ok_sub rfl rfl (by omega) (by omega)) ?_
 refine dw_o rfl (A_D rfl) ?_
 refine dw_o rfl (A_b rfl) ?_
 refine dw_o rfl (A_Y runUnderlying130 rfl sizeOf29 rfl rfl) ?_
 refine dw_o rfl (A_P ti29 rfl) ?_
 refine dw_o rfl (A_D rfl) ?_
 refine dw_o rfl (A_a 0 sl29 rfl rfl (by omega) (by omega)) ?_
 refine dw_o rfl (A_P ti3 rfl) ?_
 refine dw_o rfl (ok_sub rfl rfl (by omega) (by omega)) ?_
 refine dw_o rfl (A_D rfl) ?_
 refine dw_o rfl (A_b rfl) ?_
 refine dw_o rfl (A_Y runUnderlying130 rfl sizeOf3 rfl rfl) ?_
 refine dw_o rfl (A_P ti3 rfl) ?_
 refine dw_o rfl (ok_sub rfl rfl (by omega) (by omega)) ?_
 refine dw_o rfl (ok_rem rfl rfl (by omega) (by omega)) ?_
 refine dw_o rfl (A_a 0 sl29 rfl rfl (by omega) (by omega)) ?_
 refine dw_o rfl (A_P ti3 rfl) ?_
 refine dw_o rfl (ok_assign rfl) ?_
 refine dw_o rfl (ok_assign rfl) ?_
 refine dw_nil ?_
 refine enk K6 ?_
 refine A_Q ?_
 exact retR2 (.inr rfl) results126 (A_L (A_S rfl (A_Z (by exact (invF_exp hF h10).symm)))) (A_L (A_S rfl (A_Z (by rw [if_neg h10]))))

theorem Scale_ok (f:Fld) (a:Int) (v:List Int) (hF:FOk f) (hv:v.length<=1000000):CtrF Try.prog 75 [aGF f,aInt a,aSl 1 false aInt v] (aVec 3 1 false aInt (scaleF f a v)):=by
 refine ctrF_of Try.call75 func75 rfl rfl ?_
 intro w O
 refine A_q 0 4 rfl rfl (fun hlen0_4=>?_)
 refine A_q 0 5 rfl rfl (fun hlen0_5=>?_)
 refine ent_len 2 rfl (fun hlen2=>?_)
 refine esk rfl ?_
 refine esr rfl fun _ K2=>?_
 refine A_A rfl (ok_len rfl runUnderlying29 rfl) ?_
 refine ent_make aInt 0 rfl vt29 rfl rfl (by omega) (by omega) (by omega) (fun _ _=>rfl) (AllV.mem ⟨rfl,trivial⟩) (fun b12_1=>?_)
 refine emm rfl ?_
 refine enk K2 ?_
 refine A_C fun _ K3=>?_
 refine esr rfl fun _ K4=>?_
 refine A_A rfl (ok_len rfl runUnderlying29 rfl) ?_
 refine emm rfl ?_
 refine enk K4 ?_
 refine A_K ?_
 refine A_d (fun (i:Int)=>(⟨[(0,aGF f),(1,aInt a),(7,aEx (vec (some b12_1) (((↑v.length:Int)).toNat) (((↑v.length:Int)).toNat))),(13,aSl 1 false aInt v),(14,aInt (↑v.length:Int)),(15,aInt i)],[oVec (some b12_1) (((↑v.length:Int)).toNat) 3 1 false aInt (mixL (scaleF f a v) (List.replicate v.length 0) i)]⟩:St)) (fun (i:Int)=>(0<=i)/\(i<=v.length)) (fun (i:Int)=>(v.length-i).toNat) 0 ⟨(by omega),(by omega)⟩ (A_J ⟨rfl,rfl,rfl,rfl,rfl,A_V (A_p (show 0=(0:Int) by rfl)),trivial⟩ (A_F (A_s (show mixL (scaleF f a v) (List.replicate v.length 0) (0:Int)=List.replicate (((↑v.length:Int)).toNat) 0 by exact mixL_zero _ _)) (rfl))) ?_
 rintro i ⟨h0,h1⟩
 show Ent _ ⟨_,[_]⟩ _
 have lm:(mixL (scaleF f a v) (List.replicate v.length 0) i).length=v.length:=by rw [length_mixL _ _ (by simp)];simp
 refine esr rfl fun _ K5=>?_
 refine A_A rfl (A_r rfl rfl) ?_
 refine enk K5 ?_
 refine A_C fun _ K6=>?_
 refine A_G rfl (fun h16=>?_) (fun h16=>?_)
 ·refine esp K6 ?_
  refine A_C fun _ K7=>?_
  refine A_K ?_
  refine esr rfl fun _ K8=>?_
  refine A_A rfl (A_a 0 sl29 rfl rfl (by omega) (by omega)) ?_
  refine A_A rfl (A_P ti3 rfl) ?_
  refine emm rfl ?_
  refine enk K8 ?_
  refine A_H ?_
  refine emm rfl ?_
  refine A_A rfl (A_W (Mul_ok f a (ix 0 v i) ‹_›) rfl) ?_
  refine A_A rfl (ok_indexV sl29 rfl rfl (by omega) (by omega)) ?_
  refine ent_storeV (k:=0) (z:=mulF f a (ix 0 v i)) ti3 rfl rfl rfl (A_z (A_N _)) (by omega) (by omega) ?_
  refine enk K7 ?_
  refine A_H ?_
  refine A_A rfl (A_n rfl rfl (by omega) (by omega)) ?_
  refine emm rfl ?_
  refine A_O ?_
  refine A_U (s:=(i)) (i+1) ⟨(by omega),‹_›⟩ (by omega) (A_J ⟨rfl,rfl,rfl,rfl,rfl,rfl,trivial⟩ (A_F (A_s (show mixL (scaleF f a v) (List.replicate v.length 0) (i+1)=List.set (mixL (scaleF f a v) (List.replicate v.length 0) i) (i).toNat (mulF f a (ix 0 v i)) by exact scaleF_set f a v h0 h16)) (rfl)))
 refine A_e ?_
 refine A_0 K3 ?_
 refine esk rfl ?_
 refine A_Q ?_
 exact retR1 (.inr rfl) results75 (A_L (A_S rfl (cvF_vecV (k:=0) flat_int rfl rfl (by simp_all) (by exact mixL_all _ _ (by simp;omega) (by simp;omega)))))

theorem Clone_ok (l:List Int) (hl:l.length<=1000000):CtrN Try.prog 122 [aSl 1 false aInt l] 3 1 false aInt l:=by
 refine ctrN_of Try.call122 func122 rfl rfl ?_
 intro w O
 refine ent_len 0 rfl (fun hlen0=>?_)
 refine esk rfl ?_
 refine A_C fun _ K2=>?_
 refine esr rfl fun _ K3=>?_
 refine A_A rfl (ok_eqlNilIf underlying29 rfl) ?_
 refine enk K3 ?_
 refine ent_condIf rfl (fun h4=>?_) ?_
 ·refine esk rfl ?_
  refine A_Q ?_
  exact retN_nil (.inr rfl) results122 rfl (fun _=>rfl) (by exact h4.symm)
 refine esp K2 ?_
 refine esr rfl fun _ K5=>?_
 refine ent_buildN aInt [] rfl vt29 (by decide) (rfl) rfl (fun b5_1=>?_)
 refine emm rfl ?_
 refine ent_appendS (k:=0) rfl vt29 rfl rfl rfl rfl (A_x A_h) (by simp only [List.length_append,List.length_cons,List.length_nil];omega) (by simp only [List.length_append,List.length_cons,List.length_nil];omega) (fun r7_1 cr7_1=>?_)
 refine emm rfl ?_
 refine enk K5 ?_
 refine A_Q ?_
 exact retN (k:=0) (.inr rfl) results122 rfl rfl rfl rfl

theorem clone_ok (l:List (List Int)) (hl:l.length<=1000000) (hr:∀x∈l,x.length<=1000000):CtrW Try.prog 102 [] [aSl 1 false aInts l] (fun (y:Option Nat×Nat×List Hdr)=>match y with | (r,c,Hs)=>Hs.length=l.length) (fun (y:Option Nat×Nat×List Hdr)=>match y with | (r,c,Hs)=>aEx (vec r Hs.length c)) (fun (y:Option Nat×Nat×List Hdr)=>match y with | (r,c,Hs)=>[oVec r c 29 1 false aH Hs,oRws 3 aInt [] Hs l]):=by
 refine ctrW_of Try.call102 func102 rfl rfl ?_
 intro w O
 refine ent_len 0 rfl (fun hlen0=>?_)
 refine esk rfl ?_
 refine esr rfl fun _ K2=>?_
 refine A_A rfl (ok_len rfl runUnderlying65 rfl) ?_
 refine ent_make aH Hdr.no rfl vt65 rfl rfl (by omega) (by omega) (by omega) (fun _ _=>rfl) (AllV.mem ⟨rfl,trivial⟩) (fun b8_1=>?_)
 refine ent_rowsN 3 aInt (((↑l.length:Int)).toNat) ?_
 refine emm rfl ?_
 refine enk K2 ?_
 refine A_C fun _ K3=>?_
 refine esr rfl fun _ K4=>?_
 refine A_A rfl (ok_len rfl runUnderlying65 rfl) ?_
 refine emm rfl ?_
 refine enk K4 ?_
 refine A_K ?_
 refine A_d (fun (ss:Int×List Hdr)=>match ss with | (i,Hs)=>(⟨[(3,aEx (vec (some b8_1) (((↑l.length:Int)).toNat) (((↑l.length:Int)).toNat))),(9,aSl 1 false aInts l),(10,aInt (↑l.length:Int)),(11,aInt i)],[oRws 3 aInt [] Hs (mixG l (List.replicate l.length []) i),oVec (some b8_1) (((↑l.length:Int)).toNat) 29 1 false aH Hs]⟩:St)) (fun (ss:Int×List Hdr)=>match ss with | (i,Hs)=>(0<=i)/\(i<=l.length)/\(Hs.length=l.length)) (fun (ss:Int×List Hdr)=>match ss with | (i,Hs)=>(l.length-i).toNat) (0,List.replicate (((↑l.length:Int)).toNat) Hdr.no) ⟨(by omega),(by omega),(by simp)⟩ (A_J ⟨rfl,rfl,rfl,A_V (A_p (show 0=(0:Int) by rfl)),trivial⟩ (A_F (own_rws (show (List.replicate (((↑l.length:Int)).toNat) Hdr.no)=List.replicate (((↑l.length:Int)).toNat) Hdr.no by rfl) (show mixG l (List.replicate l.length []) (0:Int)=List.replicate (((↑l.length:Int)).toNat) [] by exact mixG_zero _ _)) (rfl))) ?_
 rintro ⟨i,Hs⟩ ⟨h0,h1,hH⟩
 show Ent _ ⟨_,[_,_]⟩ _
 refine esr rfl fun _ K5=>?_
 refine A_A rfl (A_r rfl rfl) ?_
 refine enk K5 ?_
 refine A_C fun _ K6=>?_
 refine A_G rfl (fun h12=>?_) (fun h12=>?_)
 ·refine esp K6 ?_
  refine A_C fun _ K7=>?_
  refine A_K ?_
  refine esr rfl fun _ K8=>?_
  refine A_A rfl (A_a [] sl65 rfl rfl (by omega) (by omega)) ?_
  refine A_A rfl (A_P ti29 rfl) ?_
  refine emm rfl ?_
  refine enk K8 ?_
  refine A_H ?_
  refine emm rfl ?_
  refine ent_callN rfl (Clone_ok (ix [] l i) (hr _ (ix_mem [] l h0 h12))) (ArgsA.ok ⟨A_u rfl (A_x (A_l _)),trivial⟩) (fun r19 c19=>?_)
  refine A_A rfl (ok_indexV sl65 rfl rfl (by omega) (by omega)) ?_
  refine ent_storeV (k:=2) (z:=⟨r19,((ix [] l i)).length,c19⟩) ti29 rfl rfl rfl (A_z (one_ex rfl)) (by omega) (by omega) ?_
  refine ent_putRow 1 0 i (m:=((ix [] l i)).length) [] rfl rfl (by decide) (by simp) rfl ?_
  refine enk K7 ?_
  refine A_H ?_
  refine A_A rfl (A_n rfl rfl (by omega) (by omega)) ?_
  refine emm rfl ?_
  refine A_O ?_
  refine A_U (s:=(i,Hs)) (i+1,List.set Hs (i).toNat ⟨r19,((ix [] l i)).length,c19⟩) ⟨(by omega),‹_›,(by simp;exact hH)⟩ (by dsimp only;omega) (A_J ⟨rfl,rfl,rfl,rfl,trivial⟩ (A_F (own_rws (show (List.set Hs (i).toNat ⟨r19,((ix [] l i)).length,c19⟩)=List.set Hs (i).toNat ⟨r19,((ix [] l i)).length,c19⟩ by rfl) (show mixG l (List.replicate l.length []) (i+1)=List.set (mixG l (List.replicate l.length []) i) (i).toNat (ix [] l i) by exact mixG_set [] l _ h0 h12 (by simp))) (A_F (A_s (show (List.set Hs (i).toNat ⟨r19,((ix [] l i)).length,c19⟩)=List.set Hs (i).toNat (⟨r19,((ix [] l i)).length,c19⟩) by rfl)) (rfl))))
 refine A_e ?_
 refine A_0 K3 ?_
 refine esk rfl ?_
 refine A_Q ?_
 refine ent_pm 2 [0,1] rfl (by decide) rfl ?_
 exact retW (.inr rfl) ((some b8_1),((↑l.length:Int)).toNat,Hs) (hH) ((show ([oVec (some b8_1) (((↑l.length:Int)).toNat) 29 1 false aH Hs,oRws 3 aInt [] Hs l]:List Own) = [oVec (some b8_1) (((↑l.length:Int)).toNat) 29 1 false aH Hs,oRws 3 aInt [] Hs (mixG l (List.replicate l.length []) i)] from (A_F (rfl) (A_F (own_rws rfl (show l=mixG l (List.replicate l.length []) i by exact (mixG_all _ _ (by omega) (by simp)).symm)) (rfl)))).symm) (resW1 results102 (A_L (A_S rfl (cv_ex (show vec (some b8_1) (((↑l.length:Int)).toNat) (((↑l.length:Int)).toNat)=vec (some b8_1) Hs.length (((↑l.length:Int)).toNat) by congr 1 <;> first | omega | (simp;done) | (simp;omega))))))
end Go.Proofs.Ytaipghchkamajaa

