/-
  Walks.
-/
import Derived.Test.YtaipghchkamajaaA10
import Derived.Test.YtaipghchkamajaaB1
open Go Go.Cw
namespace Go.Proofs.Ytaipghchkamajaa
open Try
set_option maxRecDepth 100000
set_option linter.unusedVariables false
set_option linter.unusedSimpArgs false
theorem Neg_ok (f:Fld) (x:Int) (hF:FOk f):Ctr Try.prog 125 [aGF f,aInt x] (aInt (negF f x)):=by
 have hS:=hF.1
 have hb:=hS.bd
 have hix:=D_r hS x
 have hsl:=hS.negF_lt x
 have hw:negF f x=wneg f.P f.M.toNat (inF f x):=hS.negc_wneg _
 refine B_E Try.call125 func125 rfl rfl ?_
 intro w O
 refine A_0 0 4 rfl rfl fun hlen0_4=>A_0 0 5 rfl rfl fun hlen0_5=>esk rfl <|esr rfl fun _ K2=>A_A rfl (A_X (in_ok f x) rfl) <|emm rfl <|enk K2 <|esk rfl <|A_C fun _ K4=>A_I <|A_Y (fun (ss:Int×Int×Int×Nat)=>match ss with | (u,t,pl,n)=>(⟨[(0,aGF f),(1,aInt u),(5,aInt t),(6,aInt pl)],[]⟩:St)) (fun (ss:Int×Int×Int×Nat)=>match ss with | (u,t,pl,n)=>(0<=u)/\(u<f.P^n)/\(1<=pl)/\(pl*f.P^n=f.q)/\(0<=t)/\(t+pl*wneg f.P n u=negF f x)) (fun (ss:Int×Int×Int×Nat)=>match ss with | (u,t,pl,n)=>n) (inF f x,0,1,f.M.toNat) ⟨(by omega),(by omega),(by omega),(by omega),(by omega),(by rw [hw];omega)⟩ (A_J ⟨rfl,rfl,A_Q (A_k (show 0=(0:Int) by rfl)),A_Q (A_k (show 1=(1:Int) by rfl)),trivial⟩ rfl) ?_
 rintro ⟨u,t,pl,n⟩ ⟨u0,u1,w0,hwq,t0,ht⟩
 show Ent _ ⟨_,[]⟩ _
 refine A_C fun _ K5=>esr rfl fun _ K6=>A_A rfl (C_M rfl rfl) <|enk K6 ?_
 refine A_H rfl (fun h11=>?_) (fun h11=>?_)
 ·have hn:1<=n:=by
   by_cases hn0:n=0
   ·subst hn0;simp at u1;omega
   omega
  have hpn:f.P^n=f.P^(n-1)*f.P:=by conv=>lhs;rw [show n=n-1+1 by omega,Int.pow_succ]
  have hpp:=C_V f.P hb.1 n
  have hpp1:=C_V f.P hb.1 (n-1)
  have hsu:=wneg_succ f.P hn u
  have hwl:pl<=f.q:=by have:=Int.mul_le_mul_of_nonneg_left hpp (show 0<=pl by omega);omega
  have hwp:pl*f.P<=f.q:=by rw [<- hwq,hpn];have:=Int.mul_le_mul_of_nonneg_left hpp1 (show 0<=pl*f.P by exact Int.mul_nonneg (by omega) (by omega));rw [Int.mul_one,Int.mul_assoc,Int.mul_comm f.P] at this;exact this
  have hwp1:pl<=pl*f.P:=by have:=Int.mul_le_mul_of_nonneg_left (show (1:Int)<=f.P by omega) (show 0<=pl by omega);omega
  have hd0:=Int.emod_nonneg u (show f.P≠0 by omega)
  have hd1:=Int.emod_lt_of_pos u (show 0<f.P by omega)
  have hd4:=Int.emod_nonneg (f.P-u%f.P) (show f.P≠0 by omega)
  have hd5:=Int.emod_lt_of_pos (f.P-u%f.P) (show 0<f.P by omega)
  have hm:=B_5 hd4 (by omega) (show 0<=pl by omega) (by omega)
  have hwn:=wneg_nonneg f.P hb.1 n u
  have htl:t<=256:=by have:=Int.mul_nonneg (show 0<=pl by omega) hwn;omega
  have hul:u<=256:=by have:=pow_le_q hwq w0 hpp;omega
  refine esp K5 <|A_I <|A_C fun _ K7=>A_u 24 mixed (by kernel_rfl) (by kernel_rfl) (by kernel_rfl) <|dw_o rfl (A_D rfl) <|dw_o rfl (A_D rfl) <|dw_o rfl (A_f rfl) <|dw_o rfl (A_t runUnderlying130 rfl sizeOf51 (by decide) (b_L rfl) rfl) <|dw_o rfl (A_d runUnderlying51 rfl sizeOf3 rfl rfl) <|dw_o rfl (A_P ti3 rfl) <|dw_o rfl (A_D rfl) <|dw_o rfl (A_D rfl) <|dw_o rfl (A_f rfl) <|dw_o rfl (A_t runUnderlying130 rfl sizeOf51 (by decide) (b_L rfl) rfl) <|dw_o rfl (A_d runUnderlying51 rfl sizeOf3 rfl rfl) <|dw_o rfl (A_P ti3 rfl) <|dw_o rfl (C_0 rfl rfl) <|dw_o rfl (B_L rfl rfl) <|dw_o rfl (A_D rfl) <|dw_o rfl (A_f rfl) <|dw_o rfl (A_t runUnderlying130 rfl sizeOf51 (by decide) (b_L rfl) rfl) <|dw_o rfl (A_d runUnderlying51 rfl sizeOf3 rfl rfl) <|dw_o rfl (A_P ti3 rfl) <|dw_o rfl (C_0 rfl rfl) <|dw_o rfl (A_D rfl) <|dw_o rfl (B_2 rfl rfl) <|dw_o rfl (A_g rfl rfl) <|dw_o rfl (B_H rfl) <|A_9 <|enk K7 ?_
  refine esr rfl fun _ K8=>A_A rfl (A_f rfl) <|A_A rfl (A_t runUnderlying130 rfl sizeOf51 (by decide) (b_L rfl) rfl) <|A_A rfl (A_d runUnderlying51 rfl sizeOf3 rfl rfl) <|A_A rfl (A_P ti3 rfl) <|A_A rfl (B_2 rfl rfl) <|emm rfl <|enk K8 <|A_F <|emm rfl <|A_A rfl (A_f rfl) <|A_A rfl (A_t runUnderlying130 rfl sizeOf51 (by decide) (b_L rfl) rfl) <|A_A rfl (A_d runUnderlying51 rfl sizeOf3 rfl rfl) <|A_A rfl (A_P ti3 rfl) <|A_A rfl (E_i rfl rfl) <|emm rfl <|A_O ?_
  refine A_T (s:=(u,t,pl,n)) (u/f.P,t+(((f.P-(u%f.P))%f.P)*pl),pl*f.P,n-1) ⟨(Int.ediv_nonneg u0 (by omega)),(Int.ediv_lt_of_lt_mul (by omega) (by rw [<- hpn];exact u1)),(by omega),(by rw [Int.mul_assoc,Int.mul_comm f.P,<- hpn];exact hwq),(by omega),(by rw [<- ht,hsu,Int.mul_add,<- Int.mul_assoc,Int.mul_comm pl ((f.P-u%f.P)%f.P)];omega)⟩ (by dsimp only;omega) (A_J ⟨rfl,rfl,rfl,rfl,trivial⟩ rfl)
 refine A_Z <|A_1 K4 <|esk rfl <|A_R ?_
 exact retR1 (.inr rfl) results125 (A_L (A_U rfl (A_b (by have hu:u=0:=(by omega);rw [<- ht,hu,wneg_zero,Int.mul_zero];omega))))

theorem Inv_ok (f:Fld) (x:Int) (hF:FOk f):Ctr Try.prog 126 [aGF f,aInt x] (aTup [aInt (invF f x),aInt (if inF f x=0 then 7 else 0)]):=by
 have hS:=hF.1
 have hb:=hS.bd
 have hix:=D_r hS x
 have hE:=hF.exp_good
 have hL:=D_Y f (f.q-1)
 change f.logs.length=_ at hL
 refine B_E Try.call126 func126 rfl rfl ?_
 intro w O
 refine A_0 0 4 rfl rfl fun hlen0_4=>A_0 0 5 rfl rfl fun hlen0_5=>esk rfl <|esr rfl fun _ K2=>A_A rfl (A_X (in_ok f x) rfl) <|emm rfl <|enk K2 <|A_C fun _ K3=>esr rfl fun _ K4=>A_A rfl (B_W rfl rfl) <|enk K4 ?_
 refine A_H rfl (fun h10=>?_) (fun h10=>?_)
 ·refine esk rfl <|A_R ?_
  exact retR2 (.inr rfl) results126 (A_L (A_U rfl (A_b (by exact (invF_zero hF h10).symm)))) (A_L (A_U rfl (A_b (by rw [i_P h10]))))
 have hlx:=hF.log (c:=inF f x) (by omega) hix.2
 have hm:=Int.emod_nonneg (f.q-1-ix 0 f.logs (inF f x)) (show f.q-1≠0 by omega)
 have hm2:=Int.emod_lt_of_pos (f.q-1-ix 0 f.logs (inF f x)) (show 0<f.q-1 by omega)
 refine esp K3 <|A_C fun _ K6=>A_u 27 mixed (by kernel_rfl) (E_b (by kernel_rfl)) (by kernel_rfl) <|dw_o rfl (A_D rfl) <|dw_o rfl (A_f rfl) <|dw_o rfl (A_d runUnderlying130 rfl sizeOf29 rfl rfl) <|dw_o rfl (A_P ti29 rfl) <|dw_o rfl (A_D rfl) <|dw_o rfl (A_f rfl) <|dw_o rfl (A_d runUnderlying130 rfl sizeOf3 rfl rfl) <|dw_o rfl (A_P ti3 rfl) <|dw_o rfl (B_L rfl rfl) <|dw_o rfl (A_D rfl) <|dw_o rfl (A_f rfl) <|dw_o rfl (A_d runUnderlying130 rfl sizeOf29 rfl rfl) <|dw_o rfl (A_P ti29 rfl) <|dw_o rfl (A_D rfl) <|dw_o rfl (A_W 0 sl29 rfl rfl) <|dw_o rfl (A_P ti3 rfl) <|dw_o rfl (B_L rfl rfl) <|dw_o rfl (A_D rfl) <|dw_o rfl (A_f rfl) <|dw_o rfl (A_d runUnderlying130 rfl sizeOf3 rfl rfl) <|dw_o rfl (A_P ti3 rfl) <|dw_o rfl (B_L rfl rfl) <|dw_o rfl (C_0 rfl rfl) <|dw_o rfl (A_W 0 sl29 rfl rfl) <|dw_o rfl (A_P ti3 rfl) <|dw_o rfl (B_H rfl) <|dw_o rfl (B_H rfl) ?_
 refine A_9 <|enk K6 <|A_R ?_
 exact retR2 (.inr rfl) results126 (A_L (A_U rfl (A_b (by exact (invF_exp hF h10).symm)))) (A_L (A_U rfl (A_b (by rw [i_N h10]))))

theorem Scale_ok (f:Fld) (a:Int) (v:List Int) (hF:FOk f) (hv:v.length<=1000000):CtrF Try.prog 75 [aGF f,aInt a,aSl 1 false aInt v] (aVec 3 1 false aInt (scaleF f a v)):=by
 refine C_x Try.call75 func75 rfl rfl ?_
 intro w O
 refine A_0 0 4 rfl rfl fun hlen0_4=>A_0 0 5 rfl rfl fun hlen0_5=>B_D 2 rfl fun hlen2=>esk rfl <|esr rfl fun _ K2=>A_A rfl (A_5 rfl runUnderlying29 rfl) <|B_1 aInt 0 rfl vt29 rfl rfl (by omega) (by omega) (by omega) (fun _ _=>rfl) (AllV.mem ⟨rfl,trivial⟩) fun b12_1=>emm rfl <|enk K2 <|A_C fun _ K3=>esr rfl fun _ K4=>A_A rfl (A_5 rfl runUnderlying29 rfl) <|emm rfl <|enk K4 <|A_I <|A_Y (fun (i:Int)=>(⟨[(0,aGF f),(1,aInt a),(7,aEx (vec (some b12_1) (((↑v.length:Int)).toNat) (((↑v.length:Int)).toNat))),(13,aSl 1 false aInt v),(14,aInt (↑v.length:Int)),(15,aInt i)],[oVec (some b12_1) (((↑v.length:Int)).toNat) 3 1 false aInt (mixL (scaleF f a v) (List.replicate v.length 0) i)]⟩:St)) (fun (i:Int)=>(0<=i)/\(i<=v.length)) (fun (i:Int)=>(v.length-i).toNat) 0 ⟨(by omega),(by omega)⟩ (A_J ⟨rfl,rfl,rfl,rfl,rfl,A_Q (A_k (show 0=(0:Int) by rfl)),trivial⟩ (A_G (A_e (show mixL (scaleF f a v) (List.replicate v.length 0) (0:Int)=List.replicate (((↑v.length:Int)).toNat) 0 by exact D_M _ _)) (rfl))) ?_
 rintro i ⟨h0,h1⟩
 show Ent _ ⟨_,[_]⟩ _
 have lm:(mixL (scaleF f a v) (List.replicate v.length 0) i).length=v.length:=by rw [B_6 _ _ (by simp)];simp
 refine esr rfl fun _ K5=>A_A rfl (A_m rfl rfl) <|enk K5 <|A_C fun _ K6=>?_
 refine A_H rfl (fun h16=>?_) (fun h16=>?_)
 ·refine esp K6 <|A_C fun _ K7=>A_I <|esr rfl fun _ K8=>A_A rfl (A_W 0 sl29 rfl rfl) <|A_A rfl (A_P ti3 rfl) <|emm rfl <|enk K8 <|A_F <|emm rfl <|A_A rfl (A_X (Mul_ok f a (ix 0 v i) ‹_›) rfl) <|A_A rfl (A_s sl29 rfl rfl) <|B_C (k:=0) (z:=mulF f a (ix 0 v i)) ti3 rfl rfl rfl (A_n (A_N _)) (by omega) (by omega) <|enk K7 <|A_F <|A_A rfl (A_g rfl rfl) <|emm rfl <|A_O ?_
  refine A_T (s:=(i)) (i+1) ⟨(by omega),‹_›⟩ (by omega) (A_J ⟨rfl,rfl,rfl,rfl,rfl,rfl,trivial⟩ (A_G (A_e (show mixL (scaleF f a v) (List.replicate v.length 0) (i+1)=List.set (mixL (scaleF f a v) (List.replicate v.length 0) i) (i).toNat (mulF f a (ix 0 v i)) by exact scaleF_set f a v h0 h16)) (rfl)))
 refine A_Z <|A_1 K3 <|esk rfl <|A_R ?_
 exact retR1 (.inr rfl) results75 (A_L (A_U rfl (C_7 (k:=0) B_j rfl rfl (by simp_all) (by exact D_X _ _ (by simp;omega) (by simp;omega)))))

theorem rNeg_ok (f:Fld) (x:Int) (hS:Shape f):Ctr Try.prog 132 [aFld f,aInt x] (aInt (negF f x)):=by
 have hb:=hS.bd
 have hP:=hS.pI
 have hN:=hS.mN
 have lx:=B_Y f.P f.M.toNat (inF f x)
 have ld:=F_S f.P f.M.toNat (inF f x)
 refine B_E Try.call132 func132 rfl rfl ?_
 intro w O
 refine A_l 0 2 rfl rfl fun hlen0_2=>esr rfl fun _ K1=>A_w rfl rfl (AllOne.mem ⟨(A_N _),(A_N _),A_j,trivial⟩) fun b2_1=>emm rfl <|enk K1 <|esr rfl fun _ K2=>A_A rfl (A_S (k:=0) ti51 rfl rfl rfl) <|emm rfl <|E_K [] rfl (E_D f x ‹_›) (ArgsA.ok ⟨A_z rfl (A_y (A_p _)),A_z rfl (A_y (A_p _)),trivial⟩) fun r9 c9=>D_P 0 rfl (by omega) fun b9_2 hb9_2=>?_
 subst hb9_2
 refine emm rfl <|enk K2 <|A_C fun _ K3=>esk rfl <|A_I <|A_Y (fun (i:Int)=>(⟨[(2,aEx (.pointer (some ⟨b2_1,0,none⟩))),(5,aEx (vec (some b9_2) ((digS f.P f.M.toNat (inF f x)).length) c9)),(6,aInt i)],[oVec (some b9_2) c9 3 1 false aInt (mixL (dneg f.P f.M.toNat (inF f x)) (digS f.P f.M.toNat (inF f x)) i),oBox b2_1 51 [aInt f.P,aInt f.M,aSl 1 false aInt f.mod]]⟩:St)) (fun (i:Int)=>(0<=i)/\(i<=f.M)) (fun (i:Int)=>(f.M-i).toNat) 0 ⟨(by omega),(by omega)⟩ (A_J ⟨rfl,rfl,A_Q (A_k (show 0=(0:Int) by rfl)),trivial⟩ (A_G (A_e (show mixL (dneg f.P f.M.toNat (inF f x)) (digS f.P f.M.toNat (inF f x)) (0:Int)=digS f.P f.M.toNat (inF f x) by exact D_M _ _)) (rfl))) ?_
 rintro i ⟨h0,h1⟩
 show Ent _ ⟨_,[_,_]⟩ _
 have lm:=B_6 (dneg f.P f.M.toNat (inF f x)) (digS f.P f.M.toNat (inF f x)) (i:=i) (by omega)
 refine A_C fun _ K5=>esr rfl fun _ K6=>A_A rfl (B_T rfl runUnderlying29 rfl) <|A_A rfl (A_m rfl rfl) <|enk K6 ?_
 refine A_H rfl (fun h13=>?_) (fun h13=>?_)
 ·have hdx:=hS.dig_ix (inF f x) h0 (show i<f.M by omega)
  have hmi:=ix_mixL (dneg f.P f.M.toNat (inF f x)) (digS f.P f.M.toNat (inF f x)) h0 (by omega) (by omega)
  have hvv:(f.P-ix 0 (mixL (dneg f.P f.M.toNat (inF f x)) (digS f.P f.M.toNat (inF f x)) i) i)%f.P=ix 0 (dneg f.P f.M.toNat (inF f x)) i:=by rw [hmi];exact (ix_dneg f.P _ _ h0 (by omega)).symm
  refine esp K5 <|A_C fun _ K7=>A_I <|A_u 13 mixed (by kernel_rfl) (by kernel_rfl) (by kernel_rfl) <|dw_o rfl (A_D rfl) <|dw_o rfl (A_D rfl) <|dw_o rfl (A_B runUnderlying51 rfl sizeOf3 (by decide) rfl) <|dw_o rfl (A_K (k:=1) isAgg3 rfl rfl rfl) <|dw_o rfl (A_D rfl) <|dw_o rfl (A_D rfl) <|dw_o rfl (A_s sl29 rfl rfl) <|dw_o rfl (B_f (k:=0) 0 ti3 rfl rfl) <|dw_o rfl (B_L rfl rfl) <|dw_o rfl (A_B runUnderlying51 rfl sizeOf3 (by decide) rfl) <|dw_o rfl (A_K (k:=1) isAgg3 rfl rfl rfl) <|dw_o rfl (C_0 rfl rfl) <|dw_o rfl (A_s sl29 rfl rfl) <|A_9 <|B_C (k:=0) (z:=(f.P-(ix 0 (mixL (dneg f.P f.M.toNat (inF f x)) (digS f.P f.M.toNat (inF f x)) i) i))%f.P) ti3 rfl rfl rfl (A_n (A_N _)) (by omega) (by omega) <|enk K7 <|A_F <|emm rfl <|A_A rfl (A_g rfl rfl) <|emm rfl <|A_O ?_
  refine A_T (s:=(i)) (i+1) ⟨(by omega),(by omega)⟩ (by omega) (A_J ⟨rfl,rfl,rfl,trivial⟩ (A_G (A_e (show mixL (dneg f.P f.M.toNat (inF f x)) (digS f.P f.M.toNat (inF f x)) (i+1)=List.set (mixL (dneg f.P f.M.toNat (inF f x)) (digS f.P f.M.toNat (inF f x)) i) (i).toNat ((f.P-(ix 0 (mixL (dneg f.P f.M.toNat (inF f x)) (digS f.P f.M.toNat (inF f x)) i) i))%f.P) by exact (C_s _ _ h0 (by omega) (by omega) hvv).symm)) (rfl)))
 have hme:=D_X (dneg f.P f.M.toNat (inF f x)) (digS f.P f.M.toNat (inF f x)) (i:=i) (by omega) (by omega)
 have hdm:∀c∈dneg f.P f.M.toNat (inF f x),0<=c/\c<f.P:=dneg_mem f.P hb.1 _ _
 have hdl:f.P^(dneg f.P f.M.toNat (inF f x)).length<=256:=by rw [ld];omega
 rw [<- hme] at hdm hdl
 refine A_Z <|A_1 K3 <|esr rfl fun _ K8=>A_A rfl (A_S (k:=1) ti51 rfl rfl rfl) <|emm rfl <|A_A rfl (G_p [0] (by exact D_U) (rValue_ok f (mixL (dneg f.P f.M.toNat (inF f x)) (digS f.P f.M.toNat (inF f x)) i) (by omega) ‹_› ‹_›) ⟨A_z rfl (A_y (A_p _)),A_z rfl (B_g (k:=0) (B_s rfl) (by simp_all) rfl),trivial⟩) <|emm rfl <|enk K8 <|A_R ?_
 exact retR1 (.inr rfl) results132 (A_L (A_U rfl (A_b (by rw [hme,valS_dneg];exact (hS.negc_wneg _).symm))))

theorem rInv_ok (f:Fld) (x:Int) (hF:FOk f):Ctr Try.prog 131 [aFld f,aInt x] (aInt (invF f x)):=by
 have hS:=hF.1
 have hb:=hS.bd
 refine B_E Try.call131 func131 rfl rfl ?_
 intro w O
 refine A_l 0 2 rfl rfl fun hlen0_2=>esr rfl fun _ K1=>A_w rfl rfl (AllOne.mem ⟨(A_N _),(A_N _),A_j,trivial⟩) fun b2_1=>emm rfl <|enk K1 <|A_C fun _ K2=>esk rfl <|A_I <|A_Y (fun (y:Int)=>(⟨[(1,aInt x),(2,aEx (.pointer (some ⟨b2_1,0,none⟩))),(5,aInt y)],[oBox b2_1 51 [aInt f.P,aInt f.M,aSl 1 false aInt f.mod]]⟩:St)) (fun (y:Int)=>(1<=y)/\(y<=f.q)/\(∀z:Int,1<=z->z<y->mulF f x z≠1)) (fun (y:Int)=>(f.q-y).toNat) 1 ⟨(by omega),(by omega),(fun z z0 z1=>by omega)⟩ (A_J ⟨rfl,rfl,A_Q (A_k (show 1=(1:Int) by rfl)),trivial⟩ rfl) ?_
 rintro y ⟨h0,h1,hn⟩
 show Ent _ ⟨_,[_]⟩ _
 refine A_C fun _ K4=>esr rfl fun _ K5=>A_A rfl (A_S (k:=0) ti51 rfl rfl rfl) <|A_A rfl (A_X (F_i f) rfl) <|A_A rfl (A_m rfl rfl) <|enk K5 ?_
 refine A_H rfl (fun h9=>?_) (fun h9=>?_)
 ·refine esp K4 <|A_C fun _ K6=>A_I <|esr rfl fun _ K7=>A_A rfl (A_S (k:=0) ti51 rfl rfl rfl) <|emm rfl <|A_A rfl (A_X (rMul_ok f x y ‹_›) rfl) <|A_A rfl (B_W rfl rfl) <|enk K7 ?_
  refine A_H rfl (fun h16=>?_) (fun h16=>?_)
  ·refine esk rfl <|A_R ?_
   exact retR1 (.inr rfl) results131 (A_L (A_U rfl (A_b (by exact invF_uniq hF h0 h9 h16))))
  refine esp K6 <|A_F <|emm rfl <|A_A rfl (A_g rfl rfl) <|emm rfl <|A_O ?_
  refine A_T (s:=(y)) (y+1) ⟨(by omega),‹_›,(fun z z0 z1=>by by_cases hz:z=y;(rw [hz];exact h16);exact hn z z0 (by omega))⟩ (by omega) (A_J ⟨rfl,rfl,rfl,trivial⟩ rfl)
 refine A_Z <|A_1 K2 <|esk rfl <|A_R ?_
 exact retR1 (.inr rfl) results131 (A_L (A_U rfl (A_b (by exact (invF_none hF (fun z z0 z1=>hn z z0 (by omega))).symm))))

theorem rscale_ok (f:Fld) (a:Int) (v:List Int) (hS:Shape f) (hv:v.length<=1000000):CtrF Try.prog 130 [aFld f,aInt a,aSl 1 false aInt v] (aVec 3 1 false aInt (scaleF f a v)):=by
 refine C_x Try.call130 func130 rfl rfl ?_
 intro w O
 refine A_l 0 2 rfl rfl fun hlen0_2=>B_D 2 rfl fun hlen2=>esr rfl fun _ K1=>A_w rfl rfl (AllOne.mem ⟨(A_N _),(A_N _),A_j,trivial⟩) fun b3_1=>emm rfl <|enk K1 <|esr rfl fun _ K2=>A_A rfl (A_5 rfl runUnderlying29 rfl) <|B_1 aInt 0 rfl vt29 rfl rfl (by omega) (by omega) (by omega) (fun _ _=>rfl) (AllV.mem ⟨rfl,trivial⟩) fun b11_2=>emm rfl <|enk K2 <|A_C fun _ K3=>esk rfl <|A_I <|A_Y (fun (i:Int)=>(⟨[(1,aInt a),(2,aSl 1 false aInt v),(3,aEx (.pointer (some ⟨b3_1,0,none⟩))),(7,aEx (vec (some b11_2) (((↑v.length:Int)).toNat) (((↑v.length:Int)).toNat))),(8,aInt i)],[oVec (some b11_2) (((↑v.length:Int)).toNat) 3 1 false aInt (mixL (scaleF f a v) (List.replicate v.length 0) i),oBox b3_1 51 [aInt f.P,aInt f.M,aSl 1 false aInt f.mod]]⟩:St)) (fun (i:Int)=>(0<=i)/\(i<=v.length)) (fun (i:Int)=>(v.length-i).toNat) 0 ⟨(by omega),(by omega)⟩ (A_J ⟨rfl,rfl,rfl,rfl,A_Q (A_k (show 0=(0:Int) by rfl)),trivial⟩ (A_G (A_e (show mixL (scaleF f a v) (List.replicate v.length 0) (0:Int)=List.replicate (((↑v.length:Int)).toNat) 0 by exact D_M _ _)) (rfl))) ?_
 rintro i ⟨h0,h1⟩
 show Ent _ ⟨_,[_,_]⟩ _
 have lm:(mixL (scaleF f a v) (List.replicate v.length 0) i).length=v.length:=by rw [B_6 _ _ (by simp)];simp
 refine A_C fun _ K5=>esr rfl fun _ K6=>A_A rfl (A_5 rfl runUnderlying29 rfl) <|A_A rfl (A_m rfl rfl) <|enk K6 ?_
 refine A_H rfl (fun h15=>?_) (fun h15=>?_)
 ·refine esp K5 <|A_C fun _ K7=>A_I <|A_u 10 mixed (by kernel_rfl) (by kernel_rfl) (by kernel_rfl) <|dw_o rfl (A_D rfl) <|dw_o rfl (A_D rfl) <|dw_o rfl (A_S (k:=1) ti51 rfl rfl rfl) <|dw_o rfl (A_D rfl) <|dw_o rfl (A_D rfl) <|dw_o rfl (A_D rfl) <|dw_o rfl (A_W 0 sl29 rfl rfl) <|dw_o rfl (A_P ti3 rfl) <|dw_o rfl (A_X (rMul_ok f a (ix 0 v i) ‹_›) rfl) <|dw_o rfl (A_s sl29 rfl rfl) <|A_9 <|B_C (k:=0) (z:=mulF f a (ix 0 v i)) ti3 rfl rfl rfl (A_n (A_N _)) (by omega) (by omega) <|enk K7 <|A_F <|emm rfl <|A_A rfl (A_g rfl rfl) <|emm rfl <|A_O ?_
  refine A_T (s:=(i)) (i+1) ⟨(by omega),‹_›⟩ (by omega) (A_J ⟨rfl,rfl,rfl,rfl,rfl,trivial⟩ (A_G (A_e (show mixL (scaleF f a v) (List.replicate v.length 0) (i+1)=List.set (mixL (scaleF f a v) (List.replicate v.length 0) i) (i).toNat (mulF f a (ix 0 v i)) by exact scaleF_set f a v h0 h15)) (rfl)))
 refine A_Z <|A_1 K3 <|esk rfl <|A_R ?_
 exact retR1 (.inr rfl) results130 (A_L (A_U rfl (C_7 (k:=0) B_j rfl rfl (by simp_all) (by exact D_X _ _ (by simp;omega) (by simp;omega)))))

theorem Clone_ok (l:List Int) (hl:l.length<=1000000):CtrN Try.prog 122 [aSl 1 false aInt l] 3 1 false aInt l:=by
 refine ctrN_of Try.call122 func122 rfl rfl ?_
 intro w O
 refine B_D 0 rfl fun hlen0=>esk rfl <|A_C fun _ K2=>esr rfl fun _ K3=>A_A rfl (ok_eqlNilIf underlying29 rfl) <|enk K3 ?_
 refine ent_condIf rfl (fun h4=>?_) ?_
 ·refine esk rfl <|A_R ?_
  exact retN_nil (.inr rfl) results122 rfl (fun _=>rfl) (by exact h4.symm)
 refine esp K2 <|esr rfl fun _ K5=>E_6 aInt [] rfl vt29 (by decide) (rfl) rfl fun b5_1=>emm rfl <|B_P (k:=0) rfl vt29 rfl rfl rfl rfl (A_y A_h) (by simp only [l_A,List.length_cons,List.length_nil];omega) (by simp only [l_A,List.length_cons,List.length_nil];omega) fun r7_1 cr7_1=>emm rfl <|enk K5 <|A_R ?_
 exact retN (k:=0) (.inr rfl) results122 rfl rfl rfl rfl

theorem clone_ok (l:List (List Int)) (hl:l.length<=1000000) (hr:∀x∈l,x.length<=1000000):CtrW Try.prog 102 [] [aSl 1 false aInts l] (fun (y:Option Nat×Nat×List Hdr)=>match y with | (r,c,Hs)=>Hs.length=l.length) (fun (y:Option Nat×Nat×List Hdr)=>match y with | (r,c,Hs)=>aEx (vec r Hs.length c)) (fun (y:Option Nat×Nat×List Hdr)=>match y with | (r,c,Hs)=>[oVec r c 29 1 false aH Hs,oRws 3 aInt [] Hs l]):=by
 refine D_I Try.call102 func102 rfl rfl ?_
 intro w O
 refine B_D 0 rfl fun hlen0=>esk rfl <|esr rfl fun _ K2=>A_A rfl (A_5 rfl runUnderlying65 rfl) <|B_1 aH Hdr.no rfl vt65 rfl rfl (by omega) (by omega) (by omega) (fun _ _=>rfl) (AllV.mem ⟨rfl,trivial⟩) fun b8_1=>ent_rowsN 3 aInt (((↑l.length:Int)).toNat) <|emm rfl <|enk K2 <|A_C fun _ K3=>esr rfl fun _ K4=>A_A rfl (A_5 rfl runUnderlying65 rfl) <|emm rfl <|enk K4 <|A_I <|A_Y (fun (ss:Int×List Hdr)=>match ss with | (i,Hs)=>(⟨[(3,aEx (vec (some b8_1) (((↑l.length:Int)).toNat) (((↑l.length:Int)).toNat))),(9,aSl 1 false aInts l),(10,aInt (↑l.length:Int)),(11,aInt i)],[oRws 3 aInt [] Hs (mixG l (List.replicate l.length []) i),oVec (some b8_1) (((↑l.length:Int)).toNat) 29 1 false aH Hs]⟩:St)) (fun (ss:Int×List Hdr)=>match ss with | (i,Hs)=>(0<=i)/\(i<=l.length)/\(Hs.length=l.length)) (fun (ss:Int×List Hdr)=>match ss with | (i,Hs)=>(l.length-i).toNat) (0,List.replicate (((↑l.length:Int)).toNat) Hdr.no) ⟨(by omega),(by omega),(by simp)⟩ (A_J ⟨rfl,rfl,rfl,A_Q (A_k (show 0=(0:Int) by rfl)),trivial⟩ (A_G (A_4 (show (List.replicate (((↑l.length:Int)).toNat) Hdr.no)=List.replicate (((↑l.length:Int)).toNat) Hdr.no by rfl) (show mixG l (List.replicate l.length []) (0:Int)=List.replicate (((↑l.length:Int)).toNat) [] by exact E_G _ _)) (rfl))) ?_
 rintro ⟨i,Hs⟩ ⟨h0,h1,hH⟩
 show Ent _ ⟨_,[_,_]⟩ _
 refine esr rfl fun _ K5=>A_A rfl (A_m rfl rfl) <|enk K5 <|A_C fun _ K6=>?_
 refine A_H rfl (fun h12=>?_) (fun h12=>?_)
 ·refine esp K6 <|A_C fun _ K7=>A_I <|esr rfl fun _ K8=>A_A rfl (A_W [] sl65 rfl rfl) <|A_A rfl (A_P ti29 rfl) <|emm rfl <|enk K8 <|A_F <|emm rfl <|ent_callN rfl (Clone_ok (ix [] l i) (hr _ (B_i [] l h0 h12))) (ArgsA.ok ⟨A_z rfl (A_y (A_p _)),trivial⟩) fun r19 c19=>A_A rfl (A_s sl65 rfl rfl) <|B_C (k:=2) (z:=⟨r19,((ix [] l i)).length,c19⟩) ti29 rfl rfl rfl (A_n (B_b rfl)) (by omega) (by omega) <|D_e 1 0 i (m:=((ix [] l i)).length) [] rfl rfl (by decide) (by simp) rfl <|enk K7 <|A_F <|A_A rfl (A_g rfl rfl) <|emm rfl <|A_O ?_
  refine A_T (s:=(i,Hs)) (i+1,List.set Hs (i).toNat ⟨r19,((ix [] l i)).length,c19⟩) ⟨(by omega),‹_›,(by simp;exact hH)⟩ (by dsimp only;omega) (A_J ⟨rfl,rfl,rfl,rfl,trivial⟩ (A_G (A_4 (show (List.set Hs (i).toNat ⟨r19,((ix [] l i)).length,c19⟩)=List.set Hs (i).toNat ⟨r19,((ix [] l i)).length,c19⟩ by rfl) (show mixG l (List.replicate l.length []) (i+1)=List.set (mixG l (List.replicate l.length []) i) (i).toNat (ix [] l i) by exact F_s [] l _ h0 h12 (by simp))) (A_G (A_e (show (List.set Hs (i).toNat ⟨r19,((ix [] l i)).length,c19⟩)=List.set Hs (i).toNat (⟨r19,((ix [] l i)).length,c19⟩) by rfl)) (rfl))))
 refine A_Z <|A_1 K3 <|esk rfl <|A_R <|C_n 2 [0,1] rfl (by decide) rfl ?_
 exact retW (.inr rfl) ((some b8_1),((↑l.length:Int)).toNat,Hs) (hH) ((show ([oVec (some b8_1) (((↑l.length:Int)).toNat) 29 1 false aH Hs,oRws 3 aInt [] Hs l]:List Own) = [oVec (some b8_1) (((↑l.length:Int)).toNat) 29 1 false aH Hs,oRws 3 aInt [] Hs (mixG l (List.replicate l.length []) i)] from (A_G (rfl) (A_G (A_4 rfl (show l=mixG l (List.replicate l.length []) i by exact (G_q _ _ (by omega) (by simp)).symm)) (rfl)))).symm) (resW1 results102 (A_L (A_U rfl (D_S (show vec (some b8_1) (((↑l.length:Int)).toNat) (((↑l.length:Int)).toNat)=vec (some b8_1) Hs.length (((↑l.length:Int)).toNat) by congr 1 <;> first | omega | (simp;done) | (simp;omega))))))
end Go.Proofs.Ytaipghchkamajaa

