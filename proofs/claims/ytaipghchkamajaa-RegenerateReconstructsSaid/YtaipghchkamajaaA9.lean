/-
  Walks.
-/
import Derived.Test.YtaipghchkamajaaA6
open Go Go.Cw
namespace Go.Proofs.Ytaipghchkamajaa
open Try
set_option maxRecDepth 100000
set_option linter.unusedVariables false
set_option linter.unusedSimpArgs false
theorem Mul_ok (f:Fld) (x y:Int) (hF:FOk f):Ctr Try.prog 93 [aGF f,aInt x,aInt y] (aInt (mulF f x y)):=by
 have hS:=hF.1
 have hb:=hS.bd
 have hix:=D_r hS x
 have hiy:=D_r hS y
 have hE:=hF.exp_good
 have hL:=D_Y f (f.q-1)
 change f.logs.length=_ at hL
 refine B_E Try.call93 func93 rfl rfl ?_
 intro w O
 refine A_0 0 4 rfl rfl fun hlen0_4=>A_0 0 5 rfl rfl fun hlen0_5=>esk rfl <|esr rfl fun _ K2=>A_A rfl (A_X (in_ok f x) rfl) <|emm rfl <|A_A rfl (A_X (in_ok f y) rfl) <|emm rfl <|enk K2 <|A_C fun _ K3=>A_C fun _ K4=>?_
 refine B_N (⟨[(0,aGF f),(1,aInt (inF f x)),(2,aInt (inF f y)),(18,aBool (decide (((inF f x)=0)\/((inF f y)=0))))],[]⟩) ?_ ?_
 ·refine A_F <|emm rfl <|A_A rfl (B_W rfl rfl) <|emm rfl ?_
  refine A_6 rfl rfl rfl rfl (fun hg15=>?_) (fun hg15=>?_)
  ·refine emm rfl <|A_M rfl rfl rfl rfl (d_F hg15) <|A_A rfl (B_W rfl rfl) <|A_A rfl (A_3 rfl (d_F hg15) rfl) <|A_O ?_
   exact A_J ⟨rfl,rfl,rfl,A_a (dq_Q ((or_iff_right hg15).trans Iff.rfl)),trivial⟩ rfl
  refine A_E rfl rfl rfl rfl (d_T hg15) <|A_A rfl (A_q rfl (d_T hg15) rfl) <|A_O ?_
  exact A_J ⟨rfl,rfl,rfl,A_a (dq_T rfl (Or.inl hg15)),trivial⟩ rfl
 refine A_1 K4 ?_
 refine A_H rfl (fun h18=>?_) (fun h18=>?_)
 ·refine esk rfl <|A_R ?_
  exact retR1 (.inr rfl) results93 (A_L (A_U rfl (A_b (by exact (mulF_zero hS h18).symm))))
 have hlx:=hF.log (c:=inF f x) (by omega) hix.2
 have hly:=hF.log (c:=inF f y) (by omega) hiy.2
 have hm:=Int.emod_nonneg (ix 0 f.logs (inF f x)+ix 0 f.logs (inF f y)) (show f.q-1≠0 by omega)
 have hm2:=Int.emod_lt_of_pos (ix 0 f.logs (inF f x)+ix 0 f.logs (inF f y)) (show 0<f.q-1 by omega)
 refine esp K3 <|A_C fun _ K6=>A_u 28 mixed (by kernel_rfl) (E_b (by kernel_rfl)) (by kernel_rfl) <|dw_o rfl (A_D rfl) <|dw_o rfl (A_f rfl) <|dw_o rfl (A_d runUnderlying130 rfl sizeOf29 rfl rfl) <|dw_o rfl (A_P ti29 rfl) <|dw_o rfl (A_D rfl) <|dw_o rfl (A_f rfl) <|dw_o rfl (A_d runUnderlying130 rfl sizeOf29 rfl rfl) <|dw_o rfl (A_P ti29 rfl) <|dw_o rfl (A_D rfl) <|dw_o rfl (A_W 0 sl29 rfl rfl) <|dw_o rfl (A_P ti3 rfl) <|dw_o rfl (A_D rfl) <|dw_o rfl (A_f rfl) <|dw_o rfl (A_d runUnderlying130 rfl sizeOf29 rfl rfl) <|dw_o rfl (A_P ti29 rfl) <|dw_o rfl (A_D rfl) <|dw_o rfl (A_W 0 sl29 rfl rfl) <|dw_o rfl (A_P ti3 rfl) <|dw_o rfl (A_g rfl rfl) <|dw_o rfl (A_D rfl) <|dw_o rfl (A_f rfl) <|dw_o rfl (A_d runUnderlying130 rfl sizeOf3 rfl rfl) <|dw_o rfl (A_P ti3 rfl) <|dw_o rfl (B_L rfl rfl) <|dw_o rfl (C_0 rfl rfl) <|dw_o rfl (A_W 0 sl29 rfl rfl) <|dw_o rfl (A_P ti3 rfl) ?_
 refine dw_o rfl (B_H rfl) <|A_9 <|enk K6 <|A_R ?_
 exact retR1 (.inr rfl) results93 (A_L (A_U rfl (A_b (by exact hF.mul_log (by omega) hix.2 (by omega) hiy.2))))

theorem Add_ok (f:Fld) (x y:Int) (hF:FOk f):Ctr Try.prog 76 [aGF f,aInt x,aInt y] (aInt (addF f x y)):=by
 have hS:=hF.1
 have hb:=hS.bd
 have hix:=D_r hS x
 have hiy:=D_r hS y
 have hsl:=hS.addF_lt x y
 have hw:addF f x y=wadd f.P f.M.toNat (inF f x) (inF f y):=hS.addc_wadd _ _
 refine B_E Try.call76 func76 rfl rfl ?_
 intro w O
 refine A_0 0 4 rfl rfl fun hlen0_4=>A_0 0 5 rfl rfl fun hlen0_5=>esk rfl <|esr rfl fun _ K2=>A_A rfl (A_X (in_ok f x) rfl) <|emm rfl <|A_A rfl (A_X (in_ok f y) rfl) <|emm rfl <|enk K2 <|A_C fun _ K3=>esr rfl fun _ K4=>A_A rfl (A_f rfl) <|A_A rfl (A_t runUnderlying130 rfl sizeOf51 (by decide) (b_L rfl) rfl) <|A_A rfl (A_d runUnderlying51 rfl sizeOf3 rfl rfl) <|A_A rfl (A_P ti3 rfl) <|A_A rfl (B_W rfl rfl) <|enk K4 ?_
 refine A_H rfl (fun h20=>?_) (fun h20=>?_)
 ·refine esr rfl fun _ K5=>A_A rfl (ok_xor rfl rfl (by omega) (by omega) (by omega) (by omega)) <|emm rfl <|enk K5 <|A_R ?_
  exact retR1 (.inr rfl) results76 (A_L (A_U rfl (A_b (by exact hS.addF_xor h20 x y))))
 refine esp K3 <|esk rfl <|A_C fun _ K7=>A_I <|A_Y (fun (ss:Int×Int×Int×Int×Nat)=>match ss with | (u,v,t,pl,n)=>(⟨[(0,aGF f),(1,aInt u),(2,aInt v),(7,aInt t),(8,aInt pl)],[]⟩:St)) (fun (ss:Int×Int×Int×Int×Nat)=>match ss with | (u,v,t,pl,n)=>(0<=u)/\(u<f.P^n)/\(0<=v)/\(v<f.P^n)/\(1<=pl)/\(pl*f.P^n=f.q)/\(0<=t)/\(t+pl*wadd f.P n u v=addF f x y)) (fun (ss:Int×Int×Int×Int×Nat)=>match ss with | (u,v,t,pl,n)=>n) (inF f x,inF f y,0,1,f.M.toNat) ⟨(by omega),(by omega),(by omega),(by omega),(by omega),(by omega),(by omega),(by rw [hw];omega)⟩ (A_J ⟨rfl,rfl,rfl,A_Q (A_k (show 0=(0:Int) by rfl)),A_Q (A_k (show 1=(1:Int) by rfl)),trivial⟩ rfl) ?_
 rintro ⟨u,v,t,pl,n⟩ ⟨u0,u1,v0,v1,w0,hwq,t0,ht⟩
 show Ent _ ⟨_,[]⟩ _
 refine A_C fun _ K8=>A_C fun _ K9=>?_
 refine B_N (⟨[(0,aGF f),(1,aInt u),(2,aInt v),(7,aInt t),(8,aInt pl),(29,aBool (decide ((0<u)\/(0<v))))],[]⟩) ?_ ?_
 ·refine A_F <|emm rfl <|A_A rfl (C_M rfl rfl) <|emm rfl ?_
  refine A_6 rfl rfl rfl rfl (fun hg26=>?_) (fun hg26=>?_)
  ·refine emm rfl <|A_M rfl rfl rfl rfl (d_F hg26) <|A_A rfl (C_M rfl rfl) <|A_A rfl (A_3 rfl (d_F hg26) rfl) <|A_O ?_
   exact A_J ⟨rfl,rfl,rfl,rfl,rfl,A_a (dq_Q ((or_iff_right hg26).trans Iff.rfl)),trivial⟩ rfl
  refine A_E rfl rfl rfl rfl (d_T hg26) <|A_A rfl (A_q rfl (d_T hg26) rfl) <|A_O ?_
  exact A_J ⟨rfl,rfl,rfl,rfl,rfl,A_a (dq_T rfl (Or.inl hg26)),trivial⟩ rfl
 refine A_1 K9 ?_
 refine A_H rfl (fun h29=>?_) (fun h29=>?_)
 ·have hn:1<=n:=by
   by_cases hn0:n=0
   ·subst hn0;simp at u1 v1;omega
   omega
  have hpn:f.P^n=f.P^(n-1)*f.P:=by conv=>lhs;rw [show n=n-1+1 by omega,Int.pow_succ]
  have hpp:=C_V f.P hb.1 n
  have hpp1:=C_V f.P hb.1 (n-1)
  have hsu:=wadd_succ f.P hn u v
  have hwl:pl<=f.q:=by have:=Int.mul_le_mul_of_nonneg_left hpp (show 0<=pl by omega);omega
  have hwp:pl*f.P<=f.q:=by rw [<- hwq,hpn];have:=Int.mul_le_mul_of_nonneg_left hpp1 (show 0<=pl*f.P by exact Int.mul_nonneg (by omega) (by omega));rw [Int.mul_one,Int.mul_assoc,Int.mul_comm f.P] at this;exact this
  have hwp1:pl<=pl*f.P:=by have:=Int.mul_le_mul_of_nonneg_left (show (1:Int)<=f.P by omega) (show 0<=pl by omega);omega
  have hd0:=Int.emod_nonneg u (show f.P≠0 by omega)
  have hd1:=Int.emod_lt_of_pos u (show 0<f.P by omega)
  have hd2:=Int.emod_nonneg v (show f.P≠0 by omega)
  have hd3:=Int.emod_lt_of_pos v (show 0<f.P by omega)
  have hd4:=Int.emod_nonneg (u%f.P+v%f.P) (show f.P≠0 by omega)
  have hd5:=Int.emod_lt_of_pos (u%f.P+v%f.P) (show 0<f.P by omega)
  have hm:=B_5 hd4 (by omega) (show 0<=pl by omega) (by omega)
  have hwn:=wadd_nonneg f.P hb.1 n u v
  have htl:t<=256:=by have:=Int.mul_nonneg (show 0<=pl by omega) hwn;omega
  have hul:u<=256:=by have:=pow_le_q hwq w0 hpp;omega
  have hvl:v<=256:=by have:=pow_le_q hwq w0 hpp;omega
  refine esp K8 <|A_I <|A_C fun _ K10=>A_u 26 mixed (by kernel_rfl) (E_b (by kernel_rfl)) (by kernel_rfl) <|dw_o rfl (A_D rfl) <|dw_o rfl (A_D rfl) <|dw_o rfl (A_D rfl) <|dw_o rfl (A_f rfl) <|dw_o rfl (A_t runUnderlying130 rfl sizeOf51 (by decide) (b_L rfl) rfl) <|dw_o rfl (A_d runUnderlying51 rfl sizeOf3 rfl rfl) <|dw_o rfl (A_P ti3 rfl) <|dw_o rfl (C_0 rfl rfl) <|dw_o rfl (A_D rfl) <|dw_o rfl (A_D rfl) <|dw_o rfl (A_f rfl) <|dw_o rfl (A_t runUnderlying130 rfl sizeOf51 (by decide) (b_L rfl) rfl) <|dw_o rfl (A_d runUnderlying51 rfl sizeOf3 rfl rfl) <|dw_o rfl (A_P ti3 rfl) <|dw_o rfl (C_0 rfl rfl) <|dw_o rfl (A_g rfl rfl) <|dw_o rfl (A_D rfl) <|dw_o rfl (A_f rfl) <|dw_o rfl (A_t runUnderlying130 rfl sizeOf51 (by decide) (b_L rfl) rfl) <|dw_o rfl (A_d runUnderlying51 rfl sizeOf3 rfl rfl) <|dw_o rfl (A_P ti3 rfl) <|dw_o rfl (C_0 rfl rfl) <|dw_o rfl (A_D rfl) <|dw_o rfl (B_2 rfl rfl) <|dw_o rfl (A_g rfl rfl) <|dw_o rfl (B_H rfl) ?_
  refine A_9 <|enk K10 <|esr rfl fun _ K11=>A_A rfl (A_f rfl) <|A_A rfl (A_t runUnderlying130 rfl sizeOf51 (by decide) (b_L rfl) rfl) <|A_A rfl (A_d runUnderlying51 rfl sizeOf3 rfl rfl) <|A_A rfl (A_P ti3 rfl) <|A_A rfl (B_2 rfl rfl) <|emm rfl <|enk K11 <|esr rfl fun _ K12=>A_A rfl (A_f rfl) <|A_A rfl (A_t runUnderlying130 rfl sizeOf51 (by decide) (b_L rfl) rfl) <|A_A rfl (A_d runUnderlying51 rfl sizeOf3 rfl rfl) <|A_A rfl (A_P ti3 rfl) <|A_A rfl (E_i rfl rfl) <|emm rfl <|enk K12 <|A_F <|emm rfl <|A_A rfl (A_f rfl) <|A_A rfl (A_t runUnderlying130 rfl sizeOf51 (by decide) (b_L rfl) rfl) <|A_A rfl (A_d runUnderlying51 rfl sizeOf3 rfl rfl) <|A_A rfl (A_P ti3 rfl) <|A_A rfl (E_i rfl rfl) <|emm rfl <|A_O ?_
  refine A_T (s:=(u,v,t,pl,n)) (u/f.P,v/f.P,t+((((u%f.P)+(v%f.P))%f.P)*pl),pl*f.P,n-1) ⟨(Int.ediv_nonneg u0 (by omega)),(Int.ediv_lt_of_lt_mul (by omega) (by rw [<- hpn];exact u1)),(Int.ediv_nonneg v0 (by omega)),(Int.ediv_lt_of_lt_mul (by omega) (by rw [<- hpn];exact v1)),(by omega),(by rw [Int.mul_assoc,Int.mul_comm f.P,<- hpn];exact hwq),(by omega),(by rw [<- ht,hsu,Int.mul_add,<- Int.mul_assoc,Int.mul_comm pl ((u%f.P+v%f.P)%f.P)];omega)⟩ (by dsimp only;omega) (A_J ⟨rfl,rfl,rfl,rfl,rfl,trivial⟩ rfl)
 refine A_Z <|A_1 K7 <|esk rfl <|A_R ?_
 exact retR1 (.inr rfl) results76 (A_L (A_U rfl (A_b (by have hu:u=0:=(by omega);have hv:v=0:=(by omega);rw [<- ht,hu,hv,wadd_zero,Int.mul_zero];omega))))

theorem rAdd_ok (f:Fld) (x y:Int) (hS:Shape f):Ctr Try.prog 71 [aFld f,aInt x,aInt y] (aInt (addF f x y)):=by
 have hb:=hS.bd
 have hP:=hS.pI
 have hN:=hS.mN
 have lx:=B_Y f.P f.M.toNat (inF f x)
 have ly:=B_Y f.P f.M.toNat (inF f y)
 have ld:=F_T f.P f.M.toNat (inF f x) (inF f y)
 refine B_E Try.call71 func71 rfl rfl ?_
 intro w O
 refine A_l 0 2 rfl rfl fun hlen0_2=>esr rfl fun _ K1=>A_w rfl rfl (AllOne.mem ⟨(A_N _),(A_N _),A_j,trivial⟩) fun b3_1=>emm rfl <|enk K1 <|esr rfl fun _ K2=>A_A rfl (A_S (k:=0) ti51 rfl rfl rfl) <|emm rfl <|E_K [] rfl (E_D f x ‹_›) (ArgsA.ok ⟨A_z rfl (A_y (A_p _)),A_z rfl (A_y (A_p _)),trivial⟩) fun r12 c12=>D_P 0 rfl (by omega) fun b12_2 hb12_2=>?_
 subst hb12_2
 refine emm rfl <|enk K2 <|esr rfl fun _ K3=>A_A rfl (A_S (k:=1) ti51 rfl rfl rfl) <|emm rfl <|A_A rfl (A_X (CtrF.ctr (CtrF.sl (E_D f y ‹_›))) rfl) <|emm rfl <|enk K3 <|A_C fun _ K4=>esk rfl <|A_I <|A_Y (fun (i:Int)=>(⟨[(3,aEx (.pointer (some ⟨b3_1,0,none⟩))),(7,aEx (vec (some b12_2) ((digS f.P f.M.toNat (inF f x)).length) c12)),(8,aSl 1 false aInt (digS f.P f.M.toNat (inF f y))),(9,aInt i)],[oVec (some b12_2) c12 3 1 false aInt (mixL (dadd f.P f.M.toNat (inF f x) (inF f y)) (digS f.P f.M.toNat (inF f x)) i),oBox b3_1 51 [aInt f.P,aInt f.M,aSl 1 false aInt f.mod]]⟩:St)) (fun (i:Int)=>(0<=i)/\(i<=f.M)) (fun (i:Int)=>(f.M-i).toNat) 0 ⟨(by omega),(by omega)⟩ (A_J ⟨rfl,rfl,rfl,A_Q (A_k (show 0=(0:Int) by rfl)),trivial⟩ (A_G (A_e (show mixL (dadd f.P f.M.toNat (inF f x) (inF f y)) (digS f.P f.M.toNat (inF f x)) (0:Int)=digS f.P f.M.toNat (inF f x) by exact D_M _ _)) (rfl))) ?_
 rintro i ⟨h0,h1⟩
 show Ent _ ⟨_,[_,_]⟩ _
 have lm:=B_6 (dadd f.P f.M.toNat (inF f x) (inF f y)) (digS f.P f.M.toNat (inF f x)) (i:=i) (by omega)
 refine A_C fun _ K6=>esr rfl fun _ K7=>A_A rfl (B_T rfl runUnderlying29 rfl) <|A_A rfl (A_m rfl rfl) <|enk K7 ?_
 refine A_H rfl (fun h19=>?_) (fun h19=>?_)
 ·have hdx:=hS.dig_ix (inF f x) h0 (show i<f.M by omega)
  have hdy:=hS.dig_ix (inF f y) h0 (show i<f.M by omega)
  have hmi:=ix_mixL (dadd f.P f.M.toNat (inF f x) (inF f y)) (digS f.P f.M.toNat (inF f x)) h0 (by omega) (by omega)
  have hvv:(ix 0 (mixL (dadd f.P f.M.toNat (inF f x) (inF f y)) (digS f.P f.M.toNat (inF f x)) i) i+ix 0 (digS f.P f.M.toNat (inF f y)) i)%f.P=ix 0 (dadd f.P f.M.toNat (inF f x) (inF f y)) i:=by rw [hmi];exact (ix_dadd f.P _ _ _ h0 (by omega)).symm
  refine esp K6 <|A_C fun _ K8=>A_I <|A_u 15 mixed (by kernel_rfl) (by kernel_rfl) (by kernel_rfl) <|dw_o rfl (A_D rfl) <|dw_o rfl (A_D rfl) <|dw_o rfl (A_D rfl) <|dw_o rfl (A_D rfl) <|dw_o rfl (A_s sl29 rfl rfl) <|dw_o rfl (B_f (k:=0) 0 ti3 rfl rfl) <|dw_o rfl (A_D rfl) <|dw_o rfl (A_D rfl) <|dw_o rfl (A_W 0 sl29 rfl rfl) <|dw_o rfl (A_P ti3 rfl) <|dw_o rfl (A_g rfl rfl) <|dw_o rfl (A_B runUnderlying51 rfl sizeOf3 (by decide) rfl) <|dw_o rfl (A_K (k:=1) isAgg3 rfl rfl rfl) <|dw_o rfl (C_0 rfl rfl) <|dw_o rfl (A_s sl29 rfl rfl) <|A_9 <|B_C (k:=0) (z:=((ix 0 (mixL (dadd f.P f.M.toNat (inF f x) (inF f y)) (digS f.P f.M.toNat (inF f x)) i) i)+(ix 0 (digS f.P f.M.toNat (inF f y)) i))%f.P) ti3 rfl rfl rfl (A_n (A_N _)) (by omega) (by omega) <|enk K8 <|A_F <|emm rfl <|A_A rfl (A_g rfl rfl) <|emm rfl <|A_O ?_
  refine A_T (s:=(i)) (i+1) ⟨(by omega),(by omega)⟩ (by omega) (A_J ⟨rfl,rfl,rfl,rfl,trivial⟩ (A_G (A_e (show mixL (dadd f.P f.M.toNat (inF f x) (inF f y)) (digS f.P f.M.toNat (inF f x)) (i+1)=List.set (mixL (dadd f.P f.M.toNat (inF f x) (inF f y)) (digS f.P f.M.toNat (inF f x)) i) (i).toNat (((ix 0 (mixL (dadd f.P f.M.toNat (inF f x) (inF f y)) (digS f.P f.M.toNat (inF f x)) i) i)+(ix 0 (digS f.P f.M.toNat (inF f y)) i))%f.P) by exact (C_s _ _ h0 (by omega) (by omega) hvv).symm)) (rfl)))
 have hme:=D_X (dadd f.P f.M.toNat (inF f x) (inF f y)) (digS f.P f.M.toNat (inF f x)) (i:=i) (by omega) (by omega)
 have hdm:∀c∈dadd f.P f.M.toNat (inF f x) (inF f y),0<=c/\c<f.P:=dadd_mem f.P hb.1 _ _ _
 have hdl:f.P^(dadd f.P f.M.toNat (inF f x) (inF f y)).length<=256:=by rw [ld];omega
 rw [<- hme] at hdm hdl
 refine A_Z <|A_1 K4 <|esr rfl fun _ K9=>A_A rfl (A_S (k:=1) ti51 rfl rfl rfl) <|emm rfl <|A_A rfl (G_p [0] (by exact D_U) (rValue_ok f (mixL (dadd f.P f.M.toNat (inF f x) (inF f y)) (digS f.P f.M.toNat (inF f x)) i) (by omega) ‹_› ‹_›) ⟨A_z rfl (A_y (A_p _)),A_z rfl (B_g (k:=0) (B_s rfl) (by simp_all) rfl),trivial⟩) <|emm rfl <|enk K9 <|A_R ?_
 exact retR1 (.inr rfl) results71 (A_L (A_U rfl (A_b (by rw [hme,valS_dadd];exact (hS.addc_wadd _ _).symm))))

end Go.Proofs.Ytaipghchkamajaa

