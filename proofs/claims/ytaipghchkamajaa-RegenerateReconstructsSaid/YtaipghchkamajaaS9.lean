/-
  Walks.
-/
import Derived.Test.YtaipghchkamajaaS8
open Go Go.Cw
namespace Go.Proofs.Ytaipghchkamajaa
open Try
set_option maxRecDepth 100000
set_option linter.unusedVariables false
set_option linter.unusedSimpArgs false
theorem bandwidthR_ok (r:Rgn) (ws:List Int) (cs:List (List Int)) (Q:RecF r ws cs) (hk:r.Kind=0):Ctr Try.prog 78 [aSlv r (pickL r.Points ws) cs] (aSl 1 false aInts (recM r (pickL r.Points ws) cs)) :=
 (show recM r (pickL r.Points ws) cs=_ from i_N (by rw [hk];decide)) ▸ bandwidth_ok r ws cs Q hk
theorem storageR_ok (r:Rgn) (ws:List Int) (cs:List (List Int)) (Q:RecF r ws cs) (hk:r.Kind=1):Ctr Try.prog 79 [aSlv r (pickL r.Points ws) cs] (aSl 1 false aInts (recM r (pickL r.Points ws) cs)) :=
 (show recM r (pickL r.Points ws) cs=_ from i_P hk) ▸ storage_ok r ws cs Q hk
theorem Equal_ok (a b:List Int)  : Ctr Try.prog 81 [aSl 1 false aInt a,aSl 1 false aInt b] (aBool (decide (a=b))):=by
 refine B_E Try.call81 func81 rfl rfl ?_
 intro w O
 refine B_D 0 rfl fun hlen0=>B_D 1 rfl fun hlen1=>esk rfl <|A_C fun _ K2=>esr rfl fun _ K3=>A_A rfl (A_5 rfl runUnderlying29 rfl) <|emm rfl <|A_A rfl (A_5 rfl runUnderlying29 rfl) <|A_A rfl (B_B rfl rfl) <|enk K3 ?_
 refine A_H rfl (fun h10=>?_) (fun h10=>?_)
 ·refine esk rfl <|A_R ?_
  exact retR1 (.inr rfl) results81 (A_L (A_U rfl (B_r (by exact (d_F (fun h=>h10 (by rw [h]))).symm))))
 refine esp K2 <|A_C fun _ K5=>esr rfl fun _ K6=>A_A rfl (A_5 rfl runUnderlying29 rfl) <|emm rfl <|enk K6 <|A_I <|A_Y (fun (i:Int)=>(⟨[(0,aSl 1 false aInt a),(1,aSl 1 false aInt b),(12,aInt (↑a.length:Int)),(13,aInt i)],[]⟩:St)) (fun (i:Int)=>(0<=i)/\(i<=a.length)/\(∀j:Int,0<=j->j<i->ix 0 a j=ix 0 b j)) (fun (i:Int)=>(a.length-i).toNat) 0 ⟨(by omega),(by omega),(fun j j0 j1=>by omega)⟩ (A_J ⟨rfl,rfl,rfl,A_Q (A_k (show 0=(0:Int) by rfl)),trivial⟩ rfl) ?_
 rintro i ⟨h0,h1,hn⟩
 show Ent _ ⟨_,[]⟩ _
 refine esr rfl fun _ K7=>A_A rfl (A_m rfl rfl) <|enk K7 <|A_C fun _ K8=>?_
 refine A_H rfl (fun h14=>?_) (fun h14=>?_)
 ·refine esp K8 <|A_C fun _ K9=>A_I <|esk rfl <|A_C fun _ K11=>A_u 9 mixed (by kernel_rfl) (by kernel_rfl) (by kernel_rfl) <|dw_o rfl (A_D rfl) <|dw_o rfl (A_D rfl) <|dw_o rfl (A_W 0 sl29 rfl rfl) <|dw_o rfl (A_P ti3 rfl) <|dw_o rfl (A_D rfl) <|dw_o rfl (A_D rfl) <|dw_o rfl (A_W 0 sl29 rfl rfl) <|dw_o rfl (A_P ti3 rfl) <|dw_o rfl (B_B rfl rfl) <|A_9 <|enk K11 ?_
  refine A_H rfl (fun h24=>?_) (fun h24=>?_)
  ·refine esk rfl <|A_R ?_
   exact retR1 (.inr rfl) results81 (A_L (A_U rfl (B_r (by exact (d_F (fun h=>h24 (by rw [h]))).symm))))
  refine esp K9 <|A_F <|A_A rfl (A_g rfl rfl) <|emm rfl <|A_O ?_
  refine A_T (s:=(i)) (i+1) ⟨(by omega),‹_›,(fun j j0 j1=>by by_cases hj:j=i;(rw [hj];exact n_N h24);exact hn j j0 (by omega))⟩ (by omega) (A_J ⟨rfl,rfl,rfl,rfl,trivial⟩ rfl)
 refine A_Z <|A_1 K5 <|esk rfl <|A_R ?_
 exact retR1 (.inr rfl) results81 (A_L (A_U rfl (B_r (by exact (d_T (D_O 0 (by omega) (fun j j0 j1=>hn j j0 (by omega)))).symm))))

set_option maxHeartbeats 1000000 in
theorem Reconstruct_ok (r:Rgn) (ws:List Int) (cs:List (List Int)) (hk1 : -9223372036854775808<=r.K) (hk2:r.K<=9223372036854775807) (hd1 : -9223372036854775808<=r.D) (hd2:r.D<=9223372036854775807):Ctr Try.prog 45 [aRgn r,aSl 1 false aInt ws,aSl 1 false aInts cs] (aTup [aSl 1 false aInt (recV r ws cs),aInt (recE r ws cs)]):=by
 refine B_E Try.call45 func45 rfl rfl ?_
 intro w O
 refine A_l 0 2 rfl rfl fun hlen0_2=>A_l 0 6 rfl rfl fun hlen0_6=>B_D 1 rfl fun hlen1=>B_D 2 rfl fun hlen2=>esr rfl fun _ K1=>A_w rfl rfl (AllOne.mem ⟨(A_N _),(A_N _),A_j,(A_N _),(A_N _),(A_N _),A_j,trivial⟩) fun b3_1=>emm rfl <|enk K1 <|A_C fun _ K2=>esr rfl fun _ K3=>A_A rfl (A_S (k:=0) ti53 rfl rfl rfl) <|A_A rfl (A_X (RgCheck_ok r ‹_› ‹_› ‹_› ‹_›) rfl) <|emm rfl <|enk K3 <|esr rfl fun _ K4=>A_A rfl (B_B rfl rfl) <|enk K4 ?_
 refine A_H rfl (fun h27=>?_) (fun h27=>?_)
 ·have hra:=rarE_1 (ws:=ws) (cs:=cs) h27
  have hrn:rarE r ws cs≠0:=by rw [hra];exact h27
  have hqe:recE r ws cs=rgErr r:=(recE_a hrn).trans hra
  have hq0:recE r ws cs≠0:=by rw [hqe];exact h27
  refine esk rfl <|A_R ?_
  exact retR2 (.inr rfl) results45 (A_L (A_U rfl (D_R (fun _=>rfl) (by exact (E_g hq0).symm)))) (A_L (A_U rfl (A_b (by exact hqe.symm))))
 have e0:=n_N h27
 have RO:=C_y.1 e0
 have hlen:=RO.len
 have hF:=RO.fld
 have hS:=hF.1
 have hrng:=RO.rng
 unfold rgBad at hrng
 have hrA:=rgA_le RO
 refine esp K2 <|A_C fun _ K6=>esr rfl fun _ K7=>A_A rfl (A_B runUnderlying53 rfl sizeOf3 (by decide) rfl) <|A_A rfl (A_K (k:=0) isAgg3 rfl rfl rfl) <|A_A rfl (A_B runUnderlying53 rfl sizeOf29 (by decide) rfl) <|A_A rfl (A_K (k:=0) isAgg29 rfl rfl rfl) <|A_A rfl (A_5 rfl runUnderlying29 rfl) <|A_A rfl (A_X (nodes_ok ws r.K (↑r.Points.length:Int) (-1)) rfl) <|emm rfl <|enk K7 <|esr rfl fun _ K8=>A_A rfl (B_B rfl rfl) <|enk K8 ?_
 refine A_H rfl (fun h37=>?_) (fun h37=>?_)
 ·have hra:=rarE_n (cs:=cs) e0 h37
  have hrn:rarE r ws cs≠0:=by rw [hra];exact h37
  have hqe:recE r ws cs=nodErr r.Points.length r.K (-1) ws:=(recE_a hrn).trans hra
  have hq0:recE r ws cs≠0:=by rw [hqe];exact h37
  refine esk rfl <|A_R ?_
  exact retR2 (.inr rfl) results45 (A_L (A_U rfl (D_R (fun _=>rfl) (by exact (E_g hq0).symm)))) (A_L (A_U rfl (A_b (by exact hqe.symm))))
 have e1:nodErr r.Points.length r.K (-1) ws=0:=n_N h37
 have hn0:=F_P e1
 have hwl:=hn0.1
 refine esp K6 <|A_C fun _ K10=>esr rfl fun _ K11=>A_A rfl (A_5 rfl runUnderlying65 rfl) <|A_A rfl (A_B runUnderlying53 rfl sizeOf3 (by decide) rfl) <|A_A rfl (A_K (k:=0) isAgg3 rfl rfl rfl) <|A_A rfl (B_B rfl rfl) <|enk K11 ?_
 refine A_H rfl (fun h43=>?_) (fun h43=>?_)
 ·have hra:=rarE_3 (cs:=cs) e0 e1 h43
  have hrn:rarE r ws cs≠0:=by rw [hra];decide
  have hqe:recE r ws cs=3:=(recE_a hrn).trans hra
  have hq0:recE r ws cs≠0:=by rw [hqe];decide
  refine esk rfl <|A_R ?_
  exact retR2 (.inr rfl) results45 (A_L (A_U rfl (D_R (fun _=>rfl) (by exact (E_g hq0).symm)))) (A_L (A_U rfl (A_b (by exact hqe.symm))))
 have e2:(cs.length:Int)=r.K:=n_N h43
 have hrf:=rarE_f e0 e1 e2
 refine esp K10 <|esr rfl fun _ K13=>A_A rfl (A_B runUnderlying53 rfl sizeOf51 (by decide) rfl) <|A_A rfl (A_S (k:=0) ti51 rfl rfl rfl) <|A_A rfl (A_X (CtrF.ctr (New_ok r.F hF)) rfl) <|emm rfl <|A_A rfl (A_V rfl rfl) <|A_A rfl (A_V rfl rfl) <|emm rfl <|enk K13 <|esr rfl fun _ K14=>A_A rfl (A_S (k:=0) ti53 rfl rfl rfl) <|A_A rfl (A_X (G_l r ‹_›) rfl) <|emm rfl <|A_A rfl (A_V rfl rfl) <|A_A rfl (A_V rfl rfl) <|emm rfl <|enk K14 <|A_C fun _ K15=>esr rfl fun _ K16=>A_A rfl (A_5 rfl runUnderlying65 rfl) <|emm rfl <|enk K16 <|A_I <|A_Y (fun (i:Int)=>(⟨[(1,aSl 1 false aInt ws),(2,aSl 1 false aInts cs),(3,aEx (.pointer (some ⟨b3_1,0,none⟩))),(10,aGF r.F),(13,aInt (rgA r)),(55,aSl 1 false aInts cs),(56,aInt (↑cs.length:Int)),(57,aInt i)],[oBox b3_1 53 [aInt r.F.P,aInt r.F.M,aSl 1 false aInt r.F.mod,aInt r.Kind,aInt r.K,aInt r.D,aSl 1 false aInt r.Points]]⟩:St)) (fun (i:Int)=>(0<=i)/\(i<=cs.length)/\(∀c∈cs.take i.toNat,lenErr r.F c (rgA r)=0)) (fun (i:Int)=>(cs.length-i).toNat) 0 ⟨(by omega),(by omega),(by simp)⟩ (A_J ⟨rfl,rfl,rfl,rfl,rfl,rfl,rfl,A_Q (A_k (show 0=(0:Int) by rfl)),trivial⟩ rfl) ?_
 rintro i ⟨h0,h1,hn⟩
 show Ent _ ⟨_,[_]⟩ _
 refine esr rfl fun _ K17=>A_A rfl (A_m rfl rfl) <|enk K17 <|A_C fun _ K18=>?_
 refine A_H rfl (fun h58=>?_) (fun h58=>?_)
 ·refine esp K18 <|A_C fun _ K19=>A_I <|esr rfl fun _ K20=>A_A rfl (A_W [] sl65 rfl rfl) <|A_A rfl (A_P ti29 rfl) <|emm rfl <|enk K20 <|esr rfl fun _ K21=>A_A rfl (A_X (elements_ok r.F (ix [] cs i) (rgA r)) rfl) <|emm rfl <|enk K21 <|esr rfl fun _ K22=>A_A rfl (B_B rfl rfl) <|enk K22 ?_
  refine A_H rfl (fun h66=>?_) (fun h66=>?_)
  ·have hra:rarE r ws cs=lenErr r.F (ix [] cs i) (rgA r):=hrf.trans (fstE_at h0 h58 hn h66)
   have hrn:rarE r ws cs≠0:=by rw [hra];exact h66
   have hqe:recE r ws cs=lenErr r.F (ix [] cs i) (rgA r):=(recE_a hrn).trans hra
   have hq0:recE r ws cs≠0:=by rw [hqe];exact h66
   refine esk rfl <|A_R ?_
   exact retR2 (.inr rfl) results45 (A_L (A_U rfl (D_R (fun _=>rfl) (by exact (E_g hq0).symm)))) (A_L (A_U rfl (A_b (by exact hqe.symm))))
  refine esp K19 <|A_F <|A_A rfl (A_g rfl rfl) <|emm rfl <|A_O ?_
  refine A_T (s:=(i)) (i+1) ⟨(by omega),‹_›,(fstE_succ h0 h58 hn (n_N h66))⟩ (by omega) (A_J ⟨rfl,rfl,rfl,rfl,rfl,rfl,rfl,rfl,trivial⟩ rfl)
 have hz:rarE r ws cs=0:=by rw [hrf];exact E_t.2 (by rw [t_L (by omega)] at hn;exact hn)
 have Q:=rec_facts hz
 have hML:=recM_len Q
 have hee:=rec_enc Q
 have her:=encR_ok hee
 have hrl:=(rec_len Q).1
 have hel:((encR r (recL r ws cs)).length:Int)=r.Points.length:=by rw [her];exact enc_len hrl hrl
 have hkk:=Q.kk
 refine A_Z <|A_1 K15 <|A_C fun _ K24=>A_u 7 mixed (by kernel_rfl) (by kernel_rfl) (by kernel_rfl) <|dw_o rfl (A_S (k:=0) ti53 rfl rfl rfl) <|dw_o rfl (A_D rfl) <|dw_o rfl (A_S (k:=0) ti53 rfl rfl rfl) <|dw_o rfl (A_D rfl) <|dw_o rfl (A_X (at_ok r ws (fun i hi=>by have:=hn0.2.1 i hi;omega) (by omega)) rfl) <|dw_o rfl (A_D rfl) <|dw_o rfl (B_y st118 (As:=[aInt 0,aInt 0,aEx (.slice none 0 0),aInt 0,aInt 0,aInt 0,aEx (.slice none 0 0),aEx (.pointer none),aEx (.slice none 0 0),aEx (.slice none 0 0)]) z118 (⟨0,7,rfl,.inr ⟨_,rfl,rfl,rfl,⟨7,1,rfl,.inl ⟨rfl,_,rfl,one_at,rfl,⟨8,1,rfl,.inl ⟨rfl,_,rfl,A_j,rfl,⟨9,1,rfl,.inl ⟨rfl,_,rfl,A_j,rfl,rfl⟩⟩⟩⟩⟩⟩⟩⟩)) <|A_9 <|A_w rfl rfl (AllOne.mem ⟨(A_N _),(A_N _),A_j,(A_N _),(A_N _),(A_N _),A_j,one_at,A_j,A_j,trivial⟩) fun b76_2=>emm rfl <|enk K24 <|esr rfl fun _ K25=>A_A rfl (ok_makeBnd rfl) <|emm rfl <|enk K25 <|A_C fun _ K26=>esr rfl fun _ K27=>A_A rfl (A_B runUnderlying53 rfl sizeOf3 (by decide) rfl) <|A_A rfl (A_K (k:=1) isAgg3 rfl rfl rfl) <|A_A rfl (B_W rfl rfl) <|enk K27 ?_
 refine A_H rfl (fun h81=>?_) (fun h81=>?_)
 ·refine A_F <|emm rfl <|A_A rfl (ok_makeBnd rfl) <|emm rfl <|enk K26 <|A_C fun _ K28=>B_t (A':=aBnd 79 [aSlv r (pickL r.Points ws) cs]) 0 18 rfl (cv_bnd ⟨cv_box (k:=0) (B_h rfl) ⟨A_y (B_k _),A_y (B_k _),A_y (B_k _),A_y (B_k _),A_y (B_k _),A_y (B_k _),A_y (B_k _),A_y (B_k _),A_y (B_k _),A_y (B_k _),trivial⟩ rfl,trivial⟩) <|A_u 4 mixed (by kernel_rfl) (by kernel_rfl) (by kernel_rfl) <|dw_o rfl (A_S (k:=0) ti53 rfl rfl rfl) <|dw_o rfl (A_D rfl) <|dw_o rfl (ok_callBnd (storageR_ok r _ cs Q (by exact h81)) rfl) <|dw_o rfl (A_X (fileOf_ok r (recM r (pickL r.Points ws) cs) RO hML.1 hML.2) rfl) <|A_9 <|emm rfl <|enk K28 <|esr rfl fun _ K29=>A_A rfl (A_S (k:=0) ti53 rfl rfl rfl) <|emm rfl <|A_A rfl (B_x (Encode_ok r (recL r ws cs) ‹_› ‹_› ‹_› ‹_›) ⟨A_z rfl (A_y A_h),A_z rfl (C_r A_h rfl),trivial⟩) <|emm rfl <|A_A rfl (A_V rfl rfl) <|A_A rfl (A_V rfl rfl) <|emm rfl <|enk K29 <|A_C fun _ K30=>esr rfl fun _ K31=>A_A rfl (B_B rfl rfl) <|enk K31 ?_
  refine A_H rfl (fun h95=>?_) (fun h95=>?_)
  ·exact absurd hee h95
  refine esp K30 <|A_C fun _ K32=>esr rfl fun _ K33=>A_A rfl (A_5 rfl runUnderlying29 rfl) <|emm rfl <|enk K33 <|A_I <|A_Y (fun (i:Int)=>(⟨[(2,aSl 1 false aInts cs),(19,aSl 1 false aInt (filR r (recM r (pickL r.Points ws) cs))),(20,aSl 1 false aInts (encR r (recL r ws cs))),(97,aSl 1 false aInt ws),(98,aInt (↑ws.length:Int)),(99,aInt i)],[oBox b3_1 53 [aInt r.F.P,aInt r.F.M,aSl 1 false aInt r.F.mod,aInt r.Kind,aInt r.K,aInt r.D,aSl 1 false aInt r.Points]]⟩:St)) (fun (i:Int)=>(0<=i)/\(i<=ws.length)/\(∀t:Int,0<=t->t<i->ix [] (encR r (recL r ws cs)) (ix 0 ws t)=ix [] cs t)) (fun (i:Int)=>(ws.length-i).toNat) 0 ⟨(by omega),(by omega),(fun t t0 t1=>by omega)⟩ (A_J ⟨rfl,rfl,rfl,rfl,rfl,A_Q (A_k (show 0=(0:Int) by rfl)),trivial⟩ rfl) ?_
  rintro i ⟨k0,k1,km⟩
  show Ent _ ⟨_,[_]⟩ _
  refine esr rfl fun _ K34=>A_A rfl (A_m rfl rfl) <|enk K34 <|A_C fun _ K35=>?_
  refine A_H rfl (fun h100=>?_) (fun h100=>?_)
  ·have hwi:=hn0.2.1 _ (B_i 0 ws k0 h100)
   refine esp K35 <|A_C fun _ K36=>A_I <|esr rfl fun _ K37=>A_A rfl (A_W 0 sl29 rfl rfl) <|A_A rfl (A_P ti3 rfl) <|emm rfl <|enk K37 <|A_C fun _ K38=>A_u 10 mixed (by kernel_rfl) (by kernel_rfl) (by kernel_rfl) <|dw_o rfl (A_D rfl) <|dw_o rfl (A_D rfl) <|dw_o rfl (A_W [] sl65 rfl rfl) <|dw_o rfl (A_P ti29 rfl) <|dw_o rfl (A_D rfl) <|dw_o rfl (A_D rfl) <|dw_o rfl (A_W [] sl65 rfl rfl) <|dw_o rfl (A_P ti29 rfl) <|dw_o rfl (A_X (Equal_ok (ix [] (encR r (recL r ws cs)) (ix 0 ws i)) (ix [] cs i)) rfl) <|dw_o rfl (E_O rfl) <|A_9 <|enk K38 ?_
   refine A_H rfl (fun h113=>?_) (fun h113=>?_)
   ·have hmm:¬mtch r ws cs (recL r ws cs):=mtch_no k0 (by omega) (by rw [<- her];exact h113)
    have hqe:recE r ws cs=10:=recE_10 hz hmm
    have hq0:recE r ws cs≠0:=by rw [hqe];decide
    refine esk rfl <|A_R ?_
    exact retR2 (.inr rfl) results45 (A_L (A_U rfl (D_R (fun _=>rfl) (by exact (E_g hq0).symm)))) (A_L (A_U rfl (A_b (by exact hqe.symm))))
   refine esp K36 <|A_F <|A_A rfl (A_g rfl rfl) <|emm rfl <|A_O ?_
   refine A_T (s:=(i)) (i+1) ⟨(by omega),‹_›,(fun t t0 t1=>by by_cases ht:t=i;(rw [ht];exact n_N h113);exact km t t0 (by omega))⟩ (by omega) (A_J ⟨rfl,rfl,rfl,rfl,rfl,rfl,trivial⟩ rfl)
  have hmm:mtch r ws cs (recL r ws cs):=fun t t0 t1=>by rw [<- her];exact km t t0 (by omega)
  have hqk:recE r ws cs=0:=recE_0 hz hmm
  refine A_Z <|A_1 K32 <|esk rfl <|A_R ?_
  exact retR2 (.inr rfl) results45 (A_L (A_U rfl (C_r F_G (by exact (recV_0 hqk).symm)))) (A_L (A_U rfl (A_b (by exact hqk.symm))))
 refine esp K26 <|A_C fun _ K41=>B_t (A':=aBnd 78 [aSlv r (pickL r.Points ws) cs]) 0 18 rfl (cv_bnd ⟨cv_box (k:=0) (B_h rfl) ⟨A_y (B_k _),A_y (B_k _),A_y (B_k _),A_y (B_k _),A_y (B_k _),A_y (B_k _),A_y (B_k _),A_y (B_k _),A_y (B_k _),A_y (B_k _),trivial⟩ rfl,trivial⟩) <|A_u 4 mixed (by kernel_rfl) (by kernel_rfl) (by kernel_rfl) <|dw_o rfl (A_S (k:=0) ti53 rfl rfl rfl) <|dw_o rfl (A_D rfl) <|dw_o rfl (ok_callBnd (bandwidthR_ok r _ cs Q (by omega)) rfl) <|dw_o rfl (A_X (fileOf_ok r (recM r (pickL r.Points ws) cs) RO hML.1 hML.2) rfl) <|A_9 <|emm rfl <|enk K41 <|esr rfl fun _ K42=>A_A rfl (A_S (k:=0) ti53 rfl rfl rfl) <|emm rfl <|A_A rfl (B_x (Encode_ok r (recL r ws cs) ‹_› ‹_› ‹_› ‹_›) ⟨A_z rfl (A_y A_h),A_z rfl (C_r A_h rfl),trivial⟩) <|emm rfl <|A_A rfl (A_V rfl rfl) <|A_A rfl (A_V rfl rfl) <|emm rfl <|enk K42 <|A_C fun _ K43=>esr rfl fun _ K44=>A_A rfl (B_B rfl rfl) <|enk K44 ?_
 refine A_H rfl (fun h95=>?_) (fun h95=>?_)
 ·exact absurd hee h95
 refine esp K43 <|A_C fun _ K45=>esr rfl fun _ K46=>A_A rfl (A_5 rfl runUnderlying29 rfl) <|emm rfl <|enk K46 <|A_I <|A_Y (fun (i:Int)=>(⟨[(2,aSl 1 false aInts cs),(19,aSl 1 false aInt (filR r (recM r (pickL r.Points ws) cs))),(20,aSl 1 false aInts (encR r (recL r ws cs))),(97,aSl 1 false aInt ws),(98,aInt (↑ws.length:Int)),(99,aInt i)],[oBox b3_1 53 [aInt r.F.P,aInt r.F.M,aSl 1 false aInt r.F.mod,aInt r.Kind,aInt r.K,aInt r.D,aSl 1 false aInt r.Points]]⟩:St)) (fun (i:Int)=>(0<=i)/\(i<=ws.length)/\(∀t:Int,0<=t->t<i->ix [] (encR r (recL r ws cs)) (ix 0 ws t)=ix [] cs t)) (fun (i:Int)=>(ws.length-i).toNat) 0 ⟨(by omega),(by omega),(fun t t0 t1=>by omega)⟩ (A_J ⟨rfl,rfl,rfl,rfl,rfl,A_Q (A_k (show 0=(0:Int) by rfl)),trivial⟩ rfl) ?_
 rintro i ⟨k0,k1,km⟩
 show Ent _ ⟨_,[_]⟩ _
 refine esr rfl fun _ K47=>A_A rfl (A_m rfl rfl) <|enk K47 <|A_C fun _ K48=>?_
 refine A_H rfl (fun h100=>?_) (fun h100=>?_)
 ·have hwi:=hn0.2.1 _ (B_i 0 ws k0 h100)
  refine esp K48 <|A_C fun _ K49=>A_I <|esr rfl fun _ K50=>A_A rfl (A_W 0 sl29 rfl rfl) <|A_A rfl (A_P ti3 rfl) <|emm rfl <|enk K50 <|A_C fun _ K51=>A_u 10 mixed (by kernel_rfl) (by kernel_rfl) (by kernel_rfl) <|dw_o rfl (A_D rfl) <|dw_o rfl (A_D rfl) <|dw_o rfl (A_W [] sl65 rfl rfl) <|dw_o rfl (A_P ti29 rfl) <|dw_o rfl (A_D rfl) <|dw_o rfl (A_D rfl) <|dw_o rfl (A_W [] sl65 rfl rfl) <|dw_o rfl (A_P ti29 rfl) <|dw_o rfl (A_X (Equal_ok (ix [] (encR r (recL r ws cs)) (ix 0 ws i)) (ix [] cs i)) rfl) <|dw_o rfl (E_O rfl) <|A_9 <|enk K51 ?_
  refine A_H rfl (fun h113=>?_) (fun h113=>?_)
  ·have hmm:¬mtch r ws cs (recL r ws cs):=mtch_no k0 (by omega) (by rw [<- her];exact h113)
   have hqe:recE r ws cs=10:=recE_10 hz hmm
   have hq0:recE r ws cs≠0:=by rw [hqe];decide
   refine esk rfl <|A_R ?_
   exact retR2 (.inr rfl) results45 (A_L (A_U rfl (D_R (fun _=>rfl) (by exact (E_g hq0).symm)))) (A_L (A_U rfl (A_b (by exact hqe.symm))))
  refine esp K49 <|A_F <|A_A rfl (A_g rfl rfl) <|emm rfl <|A_O ?_
  refine A_T (s:=(i)) (i+1) ⟨(by omega),‹_›,(fun t t0 t1=>by by_cases ht:t=i;(rw [ht];exact n_N h113);exact km t t0 (by omega))⟩ (by omega) (A_J ⟨rfl,rfl,rfl,rfl,rfl,rfl,trivial⟩ rfl)
 have hmm:mtch r ws cs (recL r ws cs):=fun t t0 t1=>by rw [<- her];exact km t t0 (by omega)
 have hqk:recE r ws cs=0:=recE_0 hz hmm
 refine A_Z <|A_1 K45 <|esk rfl <|A_R ?_
 exact retR2 (.inr rfl) results45 (A_L (A_U rfl (C_r F_G (by exact (recV_0 hqk).symm)))) (A_L (A_U rfl (A_b (by exact hqk.symm))))
end Go.Proofs.Ytaipghchkamajaa

