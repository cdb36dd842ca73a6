/-
  Walks of functions of the program and the reference.
-/
import Derived.Test.YtaipghchkamajaaS8
open Go Go.Cw
namespace Go.Proofs.Ytaipghchkamajaa
open Try
set_option maxRecDepth 100000
set_option linter.unusedVariables false
set_option linter.unusedSimpArgs false
theorem bandwidthR_ok (r:Rgn) (ws:List Int) (cs:List (List Int)) (Q:RecF r ws cs) (hk:r.Kind=0):Ctr Try.prog 78 [aSlv r (pickL r.Points ws) cs] (aSl 1 false aInts (recM r (pickL r.Points ws) cs)) :=
 (show recM r (pickL r.Points ws) cs=_ from if_neg (by rw [hk];decide)) ▸ bandwidth_ok r ws cs Q hk
theorem storageR_ok (r:Rgn) (ws:List Int) (cs:List (List Int)) (Q:RecF r ws cs) (hk:r.Kind=1):Ctr Try.prog 79 [aSlv r (pickL r.Points ws) cs] (aSl 1 false aInts (recM r (pickL r.Points ws) cs)) :=
 (show recM r (pickL r.Points ws) cs=_ from if_pos hk) ▸ storage_ok r ws cs Q hk
theorem Equal_ok (a b:List Int)  : Ctr Try.prog 81 [aSl 1 false aInt a,aSl 1 false aInt b] (aBool (decide (a=b))):=by
 refine ctr_of Try.call81 func81 rfl rfl ?_
 intro w O
 refine ent_len 0 rfl (fun hlen0=>?_)
 refine ent_len 1 rfl (fun hlen1=>?_)
 refine esk rfl ?_
 refine A_C fun _ K2=>?_
 refine esr rfl fun _ K3=>?_
 refine A_A rfl (ok_len rfl runUnderlying29 rfl) ?_
 refine emm rfl ?_
 refine A_A rfl (ok_len rfl runUnderlying29 rfl) ?_
 refine A_A rfl (ok_neq rfl rfl) ?_
 refine enk K3 ?_
 refine A_G rfl (fun h10=>?_) (fun h10=>?_)
 ·refine esk rfl ?_
  refine A_Q ?_
  exact retR1 (.inr rfl) results81 (A_L (A_S rfl (cv_bool (by exact (decide_eq_false (fun h=>h10 (by rw [h]))).symm))))
 refine esp K2 ?_
 refine A_C fun _ K5=>?_
 refine esr rfl fun _ K6=>?_
 refine A_A rfl (ok_len rfl runUnderlying29 rfl) ?_
 refine emm rfl ?_
 refine enk K6 ?_
 refine A_K ?_
 refine A_d (fun (i:Int)=>(⟨[(0,aSl 1 false aInt a),(1,aSl 1 false aInt b),(12,aInt (↑a.length:Int)),(13,aInt i)],[]⟩:St)) (fun (i:Int)=>(0<=i)/\(i<=a.length)/\(∀j:Int,0<=j->j<i->ix 0 a j=ix 0 b j)) (fun (i:Int)=>(a.length-i).toNat) 0 ⟨(by omega),(by omega),(fun j j0 j1=>by omega)⟩ (A_J ⟨rfl,rfl,rfl,A_V (A_p (show 0=(0:Int) by rfl)),trivial⟩ rfl) ?_
 rintro i ⟨h0,h1,hn⟩
 show Ent _ ⟨_,[]⟩ _
 refine esr rfl fun _ K7=>?_
 refine A_A rfl (A_r rfl rfl) ?_
 refine enk K7 ?_
 refine A_C fun _ K8=>?_
 refine A_G rfl (fun h14=>?_) (fun h14=>?_)
 ·refine esp K8 ?_
  refine A_C fun _ K9=>?_
  refine A_K ?_
  refine esk rfl ?_
  refine A_C fun _ K11=>?_
  refine A_w 9 mixed (by kernel_rfl) (by kernel_rfl) (by kernel_rfl) ?_
  refine dw_o rfl (A_D rfl) ?_
  refine dw_o rfl (A_D rfl) ?_
  refine dw_o rfl (A_a 0 sl29 rfl rfl (by omega) (by omega)) ?_
  refine dw_o rfl (A_P ti3 rfl) ?_
  refine dw_o rfl (A_D rfl) ?_
  refine dw_o rfl (A_D rfl) ?_
  refine dw_o rfl (A_a 0 sl29 rfl rfl (by omega) (by omega)) ?_
  refine dw_o rfl (A_P ti3 rfl) ?_
  refine dw_o rfl (ok_neq rfl rfl) ?_
  refine dw_nil ?_
  refine enk K11 ?_
  refine A_G rfl (fun h24=>?_) (fun h24=>?_)
  ·refine esk rfl ?_
   refine A_Q ?_
   exact retR1 (.inr rfl) results81 (A_L (A_S rfl (cv_bool (by exact (decide_eq_false (fun h=>h24 (by rw [h]))).symm))))
  refine esp K9 ?_
  refine A_H ?_
  refine A_A rfl (A_n rfl rfl (by omega) (by omega)) ?_
  refine emm rfl ?_
  refine A_O ?_
  refine A_U (s:=(i)) (i+1) ⟨(by omega),‹_›,(fun j j0 j1=>by by_cases hj:j=i;(rw [hj];exact Classical.not_not.1 h24);exact hn j j0 (by omega))⟩ (by omega) (A_J ⟨rfl,rfl,rfl,rfl,trivial⟩ rfl)
 refine A_e ?_
 refine A_0 K5 ?_
 refine esk rfl ?_
 refine A_Q ?_
 exact retR1 (.inr rfl) results81 (A_L (A_S rfl (cv_bool (by exact (decide_eq_true (ext_ix 0 (by omega) (fun j j0 j1=>hn j j0 (by omega)))).symm))))

set_option maxHeartbeats 1000000 in
theorem Reconstruct_ok (r:Rgn) (ws:List Int) (cs:List (List Int)) (hk1 : -9223372036854775808<=r.K) (hk2:r.K<=9223372036854775807) (hd1 : -9223372036854775808<=r.D) (hd2:r.D<=9223372036854775807):Ctr Try.prog 45 [aRgn r,aSl 1 false aInt ws,aSl 1 false aInts cs] (aTup [aSl 1 false aInt (recV r ws cs),aInt (recE r ws cs)]):=by
 refine ctr_of Try.call45 func45 rfl rfl ?_
 intro w O
 refine A_o 0 2 rfl rfl (fun hlen0_2=>?_)
 refine A_o 0 6 rfl rfl (fun hlen0_6=>?_)
 refine ent_len 1 rfl (fun hlen1=>?_)
 refine ent_len 2 rfl (fun hlen2=>?_)
 refine esr rfl fun _ K1=>?_
 refine A_y rfl rfl (AllOne.mem ⟨(A_N _),(A_N _),A_j,(A_N _),(A_N _),(A_N _),A_j,trivial⟩) (fun b3_1=>?_)
 refine emm rfl ?_
 refine enk K1 ?_
 refine A_C fun _ K2=>?_
 refine esr rfl fun _ K3=>?_
 refine A_A rfl (A_R (k:=0) ti53 rfl rfl rfl) ?_
 refine A_A rfl (A_W (RgCheck_ok r ‹_› ‹_› ‹_› ‹_›) rfl) ?_
 refine emm rfl ?_
 refine enk K3 ?_
 refine esr rfl fun _ K4=>?_
 refine A_A rfl (ok_neq rfl rfl) ?_
 refine enk K4 ?_
 refine A_G rfl (fun h27=>?_) (fun h27=>?_)
 ·have hra:=rarE_1 (ws:=ws) (cs:=cs) h27
  have hrn:rarE r ws cs≠0:=by rw [hra];exact h27
  have hqe:recE r ws cs=rgErr r:=(recE_a hrn).trans hra
  have hq0:recE r ws cs≠0:=by rw [hqe];exact h27
  refine esk rfl ?_
  refine A_Q ?_
  exact retR2 (.inr rfl) results45 (A_L (A_S rfl (cv_nil (fun _=>rfl) (by exact (recV_no hq0).symm)))) (A_L (A_S rfl (A_Z (by exact hqe.symm))))
 have e0:=Classical.not_not.1 h27
 have RO:=rgErr_zero.1 e0
 have hlen:=RO.len
 have hF:=RO.fld
 have hS:=hF.1
 have hrng:=RO.rng
 unfold rgBad at hrng
 have hrA:=rgA_le RO
 refine esp K2 ?_
 refine A_C fun _ K6=>?_
 refine esr rfl fun _ K7=>?_
 refine A_A rfl (A_B runUnderlying53 rfl sizeOf3 (by decide) rfl) ?_
 refine A_A rfl (A_I (k:=0) isAgg3 rfl rfl rfl) ?_
 refine A_A rfl (A_B runUnderlying53 rfl sizeOf29 (by decide) rfl) ?_
 refine A_A rfl (A_I (k:=0) isAgg29 rfl rfl rfl) ?_
 refine A_A rfl (ok_len rfl runUnderlying29 rfl) ?_
 refine A_A rfl (A_W (nodes_ok ws r.K (↑r.Points.length:Int) (-1)) rfl) ?_
 refine emm rfl ?_
 refine enk K7 ?_
 refine esr rfl fun _ K8=>?_
 refine A_A rfl (ok_neq rfl rfl) ?_
 refine enk K8 ?_
 refine A_G rfl (fun h37=>?_) (fun h37=>?_)
 ·have hra:=rarE_n (cs:=cs) e0 h37
  have hrn:rarE r ws cs≠0:=by rw [hra];exact h37
  have hqe:recE r ws cs=nodErr r.Points.length r.K (-1) ws:=(recE_a hrn).trans hra
  have hq0:recE r ws cs≠0:=by rw [hqe];exact h37
  refine esk rfl ?_
  refine A_Q ?_
  exact retR2 (.inr rfl) results45 (A_L (A_S rfl (cv_nil (fun _=>rfl) (by exact (recV_no hq0).symm)))) (A_L (A_S rfl (A_Z (by exact hqe.symm))))
 have e1:nodErr r.Points.length r.K (-1) ws=0:=Classical.not_not.1 h37
 have hn0:=nodErr_zero e1
 have hwl:=hn0.1
 refine esp K6 ?_
 refine A_C fun _ K10=>?_
 refine esr rfl fun _ K11=>?_
 refine A_A rfl (ok_len rfl runUnderlying65 rfl) ?_
 refine A_A rfl (A_B runUnderlying53 rfl sizeOf3 (by decide) rfl) ?_
 refine A_A rfl (A_I (k:=0) isAgg3 rfl rfl rfl) ?_
 refine A_A rfl (ok_neq rfl rfl) ?_
 refine enk K11 ?_
 refine A_G rfl (fun h43=>?_) (fun h43=>?_)
 ·have hra:=rarE_3 (cs:=cs) e0 e1 h43
  have hrn:rarE r ws cs≠0:=by rw [hra];decide
  have hqe:recE r ws cs=3:=(recE_a hrn).trans hra
  have hq0:recE r ws cs≠0:=by rw [hqe];decide
  refine esk rfl ?_
  refine A_Q ?_
  exact retR2 (.inr rfl) results45 (A_L (A_S rfl (cv_nil (fun _=>rfl) (by exact (recV_no hq0).symm)))) (A_L (A_S rfl (A_Z (by exact hqe.symm))))
 have e2:(cs.length:Int)=r.K:=Classical.not_not.1 h43
 have hrf:=rarE_f e0 e1 e2
 refine esp K10 ?_
 refine esr rfl fun _ K13=>?_
 refine A_A rfl (A_B runUnderlying53 rfl sizeOf51 (by decide) rfl) ?_
 refine A_A rfl (A_R (k:=0) ti51 rfl rfl rfl) ?_
 refine A_A rfl (A_W (CtrF.ctr (New_ok r.F hF)) rfl) ?_
 refine emm rfl ?_
 refine A_A rfl (A_T rfl rfl) ?_
 refine A_A rfl (A_T rfl rfl) ?_
 refine emm rfl ?_
 refine enk K13 ?_
 refine esr rfl fun _ K14=>?_
 refine A_A rfl (A_R (k:=0) ti53 rfl rfl rfl) ?_
 refine A_A rfl (A_W (sizes_ok r ‹_›) rfl) ?_
 refine emm rfl ?_
 refine A_A rfl (A_T rfl rfl) ?_
 refine A_A rfl (A_T rfl rfl) ?_
 refine emm rfl ?_
 refine enk K14 ?_
 refine A_C fun _ K15=>?_
 refine esr rfl fun _ K16=>?_
 refine A_A rfl (ok_len rfl runUnderlying65 rfl) ?_
 refine emm rfl ?_
 refine enk K16 ?_
 refine A_K ?_
 refine A_d (fun (i:Int)=>(⟨[(1,aSl 1 false aInt ws),(2,aSl 1 false aInts cs),(3,aEx (.pointer (some ⟨b3_1,0,none⟩))),(10,aGF r.F),(13,aInt (rgA r)),(55,aSl 1 false aInts cs),(56,aInt (↑cs.length:Int)),(57,aInt i)],[oBox b3_1 53 [aInt r.F.P,aInt r.F.M,aSl 1 false aInt r.F.mod,aInt r.Kind,aInt r.K,aInt r.D,aSl 1 false aInt r.Points]]⟩:St)) (fun (i:Int)=>(0<=i)/\(i<=cs.length)/\(∀c∈cs.take i.toNat,lenErr r.F c (rgA r)=0)) (fun (i:Int)=>(cs.length-i).toNat) 0 ⟨(by omega),(by omega),(by simp)⟩ (A_J ⟨rfl,rfl,rfl,rfl,rfl,rfl,rfl,A_V (A_p (show 0=(0:Int) by rfl)),trivial⟩ rfl) ?_
 rintro i ⟨h0,h1,hn⟩
 show Ent _ ⟨_,[_]⟩ _
 refine esr rfl fun _ K17=>?_
 refine A_A rfl (A_r rfl rfl) ?_
 refine enk K17 ?_
 refine A_C fun _ K18=>?_
 refine A_G rfl (fun h58=>?_) (fun h58=>?_)
 ·refine esp K18 ?_
  refine A_C fun _ K19=>?_
  refine A_K ?_
  refine esr rfl fun _ K20=>?_
  refine A_A rfl (A_a [] sl65 rfl rfl (by omega) (by omega)) ?_
  refine A_A rfl (A_P ti29 rfl) ?_
  refine emm rfl ?_
  refine enk K20 ?_
  refine esr rfl fun _ K21=>?_
  refine A_A rfl (A_W (elements_ok r.F (ix [] cs i) (rgA r)) rfl) ?_
  refine emm rfl ?_
  refine enk K21 ?_
  refine esr rfl fun _ K22=>?_
  refine A_A rfl (ok_neq rfl rfl) ?_
  refine enk K22 ?_
  refine A_G rfl (fun h66=>?_) (fun h66=>?_)
  ·have hra:rarE r ws cs=lenErr r.F (ix [] cs i) (rgA r):=hrf.trans (fstE_at h0 h58 hn h66)
   have hrn:rarE r ws cs≠0:=by rw [hra];exact h66
   have hqe:recE r ws cs=lenErr r.F (ix [] cs i) (rgA r):=(recE_a hrn).trans hra
   have hq0:recE r ws cs≠0:=by rw [hqe];exact h66
   refine esk rfl ?_
   refine A_Q ?_
   exact retR2 (.inr rfl) results45 (A_L (A_S rfl (cv_nil (fun _=>rfl) (by exact (recV_no hq0).symm)))) (A_L (A_S rfl (A_Z (by exact hqe.symm))))
  refine esp K19 ?_
  refine A_H ?_
  refine A_A rfl (A_n rfl rfl (by omega) (by omega)) ?_
  refine emm rfl ?_
  refine A_O ?_
  refine A_U (s:=(i)) (i+1) ⟨(by omega),‹_›,(fstE_succ h0 h58 hn (Classical.not_not.1 h66))⟩ (by omega) (A_J ⟨rfl,rfl,rfl,rfl,rfl,rfl,rfl,rfl,trivial⟩ rfl)
 have hz:rarE r ws cs=0:=by rw [hrf];exact fstE_zero.2 (by rw [List.take_of_length_le (by omega)] at hn;exact hn)
 have Q:=rec_facts hz
 have hML:=recM_len Q
 have hee:=rec_enc Q
 have her:=encR_ok hee
 have hrl:=(rec_len Q).1
 have hel:((encR r (recL r ws cs)).length:Int)=r.Points.length:=by rw [her];exact enc_len hrl hrl
 have hkk:=Q.kk
 refine A_e ?_
 refine A_0 K15 ?_
 refine A_C fun _ K24=>?_
 refine A_w 7 mixed (by kernel_rfl) (by kernel_rfl) (by kernel_rfl) ?_
 refine dw_o rfl (A_R (k:=0) ti53 rfl rfl rfl) ?_
 refine dw_o rfl (A_D rfl) ?_
 refine dw_o rfl (A_R (k:=0) ti53 rfl rfl rfl) ?_
 refine dw_o rfl (A_D rfl) ?_
 refine dw_o rfl (A_W (at_ok r ws (fun i hi=>by have:=hn0.2.1 i hi;omega) (by omega)) rfl) ?_
 refine dw_o rfl (A_D rfl) ?_
 refine dw_o rfl (ok_build st118 (As:=[aInt 0,aInt 0,aEx (.slice none 0 0),aInt 0,aInt 0,aInt 0,aEx (.slice none 0 0),aEx (.pointer none),aEx (.slice none 0 0),aEx (.slice none 0 0)]) z118 (⟨0,7,rfl,.inr ⟨_,rfl,rfl,rfl,⟨7,1,rfl,.inl ⟨rfl,_,rfl,one_at,rfl,⟨8,1,rfl,.inl ⟨rfl,_,rfl,A_j,rfl,⟨9,1,rfl,.inl ⟨rfl,_,rfl,A_j,rfl,rfl⟩⟩⟩⟩⟩⟩⟩⟩)) ?_
 refine dw_nil ?_
 refine A_y rfl rfl (AllOne.mem ⟨(A_N _),(A_N _),A_j,(A_N _),(A_N _),(A_N _),A_j,one_at,A_j,A_j,trivial⟩) (fun b76_2=>?_)
 refine emm rfl ?_
 refine enk K24 ?_
 refine esr rfl fun _ K25=>?_
 refine A_A rfl (ok_makeBnd rfl) ?_
 refine emm rfl ?_
 refine enk K25 ?_
 refine A_C fun _ K26=>?_
 refine esr rfl fun _ K27=>?_
 refine A_A rfl (A_B runUnderlying53 rfl sizeOf3 (by decide) rfl) ?_
 refine A_A rfl (A_I (k:=1) isAgg3 rfl rfl rfl) ?_
 refine A_A rfl (ok_eql rfl rfl) ?_
 refine enk K27 ?_
 refine A_G rfl (fun h81=>?_) (fun h81=>?_)
 ·refine A_H ?_
  refine emm rfl ?_
  refine A_A rfl (ok_makeBnd rfl) ?_
  refine emm rfl ?_
  refine enk K26 ?_
  refine A_C fun _ K28=>?_
  refine ent_give (A':=aBnd 79 [aSlv r (pickL r.Points ws) cs]) 0 18 rfl (cv_bnd ⟨cv_box (k:=0) (off_erase rfl) ⟨A_x (sub_erase _),A_x (sub_erase _),A_x (sub_erase _),A_x (sub_erase _),A_x (sub_erase _),A_x (sub_erase _),A_x (sub_erase _),A_x (sub_erase _),A_x (sub_erase _),A_x (sub_erase _),trivial⟩ rfl,trivial⟩) ?_
  refine A_w 4 mixed (by kernel_rfl) (by kernel_rfl) (by kernel_rfl) ?_
  refine dw_o rfl (A_R (k:=0) ti53 rfl rfl rfl) ?_
  refine dw_o rfl (A_D rfl) ?_
  refine dw_o rfl (ok_callBnd (storageR_ok r _ cs Q (by exact h81)) rfl) ?_
  refine dw_o rfl (A_W (fileOf_ok r (recM r (pickL r.Points ws) cs) RO hML.1 hML.2) rfl) ?_
  refine dw_nil ?_
  refine emm rfl ?_
  refine enk K28 ?_
  refine esr rfl fun _ K29=>?_
  refine A_A rfl (A_R (k:=0) ti53 rfl rfl rfl) ?_
  refine emm rfl ?_
  refine A_A rfl (ok_callA (Encode_ok r (recL r ws cs) ‹_› ‹_› ‹_› ‹_›) ⟨A_u rfl (A_x A_h),A_u rfl (cv_sl A_h rfl),trivial⟩) ?_
  refine emm rfl ?_
  refine A_A rfl (A_T rfl rfl) ?_
  refine A_A rfl (A_T rfl rfl) ?_
  refine emm rfl ?_
  refine enk K29 ?_
  refine A_C fun _ K30=>?_
  refine esr rfl fun _ K31=>?_
  refine A_A rfl (ok_neq rfl rfl) ?_
  refine enk K31 ?_
  refine A_G rfl (fun h95=>?_) (fun h95=>?_)
  ·exact absurd hee h95
  refine esp K30 ?_
  refine A_C fun _ K32=>?_
  refine esr rfl fun _ K33=>?_
  refine A_A rfl (ok_len rfl runUnderlying29 rfl) ?_
  refine emm rfl ?_
  refine enk K33 ?_
  refine A_K ?_
  refine A_d (fun (i:Int)=>(⟨[(2,aSl 1 false aInts cs),(19,aSl 1 false aInt (filR r (recM r (pickL r.Points ws) cs))),(20,aSl 1 false aInts (encR r (recL r ws cs))),(97,aSl 1 false aInt ws),(98,aInt (↑ws.length:Int)),(99,aInt i)],[oBox b3_1 53 [aInt r.F.P,aInt r.F.M,aSl 1 false aInt r.F.mod,aInt r.Kind,aInt r.K,aInt r.D,aSl 1 false aInt r.Points]]⟩:St)) (fun (i:Int)=>(0<=i)/\(i<=ws.length)/\(∀t:Int,0<=t->t<i->ix [] (encR r (recL r ws cs)) (ix 0 ws t)=ix [] cs t)) (fun (i:Int)=>(ws.length-i).toNat) 0 ⟨(by omega),(by omega),(fun t t0 t1=>by omega)⟩ (A_J ⟨rfl,rfl,rfl,rfl,rfl,A_V (A_p (show 0=(0:Int) by rfl)),trivial⟩ rfl) ?_
  rintro i ⟨k0,k1,km⟩
  show Ent _ ⟨_,[_]⟩ _
  refine esr rfl fun _ K34=>?_
  refine A_A rfl (A_r rfl rfl) ?_
  refine enk K34 ?_
  refine A_C fun _ K35=>?_
  refine A_G rfl (fun h100=>?_) (fun h100=>?_)
  ·have hwi:=hn0.2.1 _ (ix_mem 0 ws k0 h100)
   refine esp K35 ?_
   refine A_C fun _ K36=>?_
   refine A_K ?_
   refine esr rfl fun _ K37=>?_
   refine A_A rfl (A_a 0 sl29 rfl rfl (by omega) (by omega)) ?_
   refine A_A rfl (A_P ti3 rfl) ?_
   refine emm rfl ?_
   refine enk K37 ?_
   refine A_C fun _ K38=>?_
   refine A_w 10 mixed (by kernel_rfl) (by kernel_rfl) (by kernel_rfl) ?_
   refine dw_o rfl (A_D rfl) ?_
   refine dw_o rfl (A_D rfl) ?_
   refine dw_o rfl (A_a [] sl65 rfl rfl (by omega) (by omega)) ?_
   refine dw_o rfl (A_P ti29 rfl) ?_
   refine dw_o rfl (A_D rfl) ?_
   refine dw_o rfl (A_D rfl) ?_
   refine dw_o rfl (A_a [] sl65 rfl rfl (by omega) (by omega)) ?_
   refine dw_o rfl (A_P ti29 rfl) ?_
   refine dw_o rfl (A_W (Equal_ok (ix [] (encR r (recL r ws cs)) (ix 0 ws i)) (ix [] cs i)) rfl) ?_
   refine dw_o rfl (ok_notD rfl) ?_
   refine dw_nil ?_
   refine enk K38 ?_
   refine A_G rfl (fun h113=>?_) (fun h113=>?_)
   ·have hmm:¬mtch r ws cs (recL r ws cs):=mtch_no k0 (by omega) (by rw [<- her];exact h113)
    have hqe:recE r ws cs=10:=recE_10 hz hmm
    have hq0:recE r ws cs≠0:=by rw [hqe];decide
    refine esk rfl ?_
    refine A_Q ?_
    exact retR2 (.inr rfl) results45 (A_L (A_S rfl (cv_nil (fun _=>rfl) (by exact (recV_no hq0).symm)))) (A_L (A_S rfl (A_Z (by exact hqe.symm))))
   refine esp K36 ?_
   refine A_H ?_
   refine A_A rfl (A_n rfl rfl (by omega) (by omega)) ?_
   refine emm rfl ?_
   refine A_O ?_
   refine A_U (s:=(i)) (i+1) ⟨(by omega),‹_›,(fun t t0 t1=>by by_cases ht:t=i;(rw [ht];exact Classical.not_not.1 h113);exact km t t0 (by omega))⟩ (by omega) (A_J ⟨rfl,rfl,rfl,rfl,rfl,rfl,trivial⟩ rfl)
  have hmm:mtch r ws cs (recL r ws cs):=fun t t0 t1=>by rw [<- her];exact km t t0 (by omega)
  have hqk:recE r ws cs=0:=recE_0 hz hmm
  refine A_e ?_
  refine A_0 K32 ?_
  refine esk rfl ?_
  refine A_Q ?_
  exact retR2 (.inr rfl) results45 (A_L (A_S rfl (cv_sl sub_x (by exact (recV_0 hqk).symm)))) (A_L (A_S rfl (A_Z (by exact hqk.symm))))
 refine esp K26 ?_
 refine A_C fun _ K41=>?_
 refine ent_give (A':=aBnd 78 [aSlv r (pickL r.Points ws) cs]) 0 18 rfl (cv_bnd ⟨cv_box (k:=0) (off_erase rfl) ⟨A_x (sub_erase _),A_x (sub_erase _),A_x (sub_erase _),A_x (sub_erase _),A_x (sub_erase _),A_x (sub_erase _),A_x (sub_erase _),A_x (sub_erase _),A_x (sub_erase _),A_x (sub_erase _),trivial⟩ rfl,trivial⟩) ?_
 refine A_w 4 mixed (by kernel_rfl) (by kernel_rfl) (by kernel_rfl) ?_
 refine dw_o rfl (A_R (k:=0) ti53 rfl rfl rfl) ?_
 refine dw_o rfl (A_D rfl) ?_
 refine dw_o rfl (ok_callBnd (bandwidthR_ok r _ cs Q (by omega)) rfl) ?_
 refine dw_o rfl (A_W (fileOf_ok r (recM r (pickL r.Points ws) cs) RO hML.1 hML.2) rfl) ?_
 refine dw_nil ?_
 refine emm rfl ?_
 refine enk K41 ?_
 refine esr rfl fun _ K42=>?_
 refine A_A rfl (A_R (k:=0) ti53 rfl rfl rfl) ?_
 refine emm rfl ?_
 refine A_A rfl (ok_callA (Encode_ok r (recL r ws cs) ‹_› ‹_› ‹_› ‹_›) ⟨A_u rfl (A_x A_h),A_u rfl (cv_sl A_h rfl),trivial⟩) ?_
 refine emm rfl ?_
 refine A_A rfl (A_T rfl rfl) ?_
 refine A_A rfl (A_T rfl rfl) ?_
 refine emm rfl ?_
 refine enk K42 ?_
 refine A_C fun _ K43=>?_
 refine esr rfl fun _ K44=>?_
 refine A_A rfl (ok_neq rfl rfl) ?_
 refine enk K44 ?_
 refine A_G rfl (fun h95=>?_) (fun h95=>?_)
 ·exact absurd hee h95
 refine esp K43 ?_
 refine A_C fun _ K45=>?_
 refine esr rfl fun _ K46=>?_
 refine A_A rfl (ok_len rfl runUnderlying29 rfl) ?_
 refine emm rfl ?_
 refine enk K46 ?_
 refine A_K ?_
 refine A_d (fun (i:Int)=>(⟨[(2,aSl 1 false aInts cs),(19,aSl 1 false aInt (filR r (recM r (pickL r.Points ws) cs))),(20,aSl 1 false aInts (encR r (recL r ws cs))),(97,aSl 1 false aInt ws),(98,aInt (↑ws.length:Int)),(99,aInt i)],[oBox b3_1 53 [aInt r.F.P,aInt r.F.M,aSl 1 false aInt r.F.mod,aInt r.Kind,aInt r.K,aInt r.D,aSl 1 false aInt r.Points]]⟩:St)) (fun (i:Int)=>(0<=i)/\(i<=ws.length)/\(∀t:Int,0<=t->t<i->ix [] (encR r (recL r ws cs)) (ix 0 ws t)=ix [] cs t)) (fun (i:Int)=>(ws.length-i).toNat) 0 ⟨(by omega),(by omega),(fun t t0 t1=>by omega)⟩ (A_J ⟨rfl,rfl,rfl,rfl,rfl,A_V (A_p (show 0=(0:Int) by rfl)),trivial⟩ rfl) ?_
 rintro i ⟨k0,k1,km⟩
 show Ent _ ⟨_,[_]⟩ _
 refine esr rfl fun _ K47=>?_
 refine A_A rfl (A_r rfl rfl) ?_
 refine enk K47 ?_
 refine A_C fun _ K48=>?_
 refine A_G rfl (fun h100=>?_) (fun h100=>?_)
 ·have hwi:=hn0.2.1 _ (ix_mem 0 ws k0 h100)
  refine esp K48 ?_
  refine A_C fun _ K49=>?_
  refine A_K ?_
  refine esr rfl fun _ K50=>?_
  refine A_A rfl (A_a 0 sl29 rfl rfl (by omega) (by omega)) ?_
  refine A_A rfl (A_P ti3 rfl) ?_
  refine emm rfl ?_
  refine enk K50 ?_
  refine A_C fun _ K51=>?_
  refine A_w 10 mixed (by kernel_rfl) (by kernel_rfl) (by kernel_rfl) ?_
  refine dw_o rfl (A_D rfl) ?_
  refine dw_o rfl (A_D rfl) ?_
  refine dw_o rfl (A_a [] sl65 rfl rfl (by omega) (by omega)) ?_
  refine dw_o rfl (A_P ti29 rfl) ?_
  refine dw_o rfl (A_D rfl) ?_
  refine dw_o rfl (A_D rfl) ?_
  refine dw_o rfl (A_a [] sl65 rfl rfl (by omega) (by omega)) ?_
  refine dw_o rfl (A_P ti29 rfl) ?_
  refine dw_o rfl (A_W (Equal_ok (ix [] (encR r (recL r ws cs)) (ix 0 ws i)) (ix [] cs i)) rfl) ?_
  refine dw_o rfl (ok_notD rfl) ?_
  refine dw_nil ?_
  refine enk K51 ?_
  refine A_G rfl (fun h113=>?_) (fun h113=>?_)
  ·have hmm:¬mtch r ws cs (recL r ws cs):=mtch_no k0 (by omega) (by rw [<- her];exact h113)
   have hqe:recE r ws cs=10:=recE_10 hz hmm
   have hq0:recE r ws cs≠0:=by rw [hqe];decide
   refine esk rfl ?_
   refine A_Q ?_
   exact retR2 (.inr rfl) results45 (A_L (A_S rfl (cv_nil (fun _=>rfl) (by exact (recV_no hq0).symm)))) (A_L (A_S rfl (A_Z (by exact hqe.symm))))
  refine esp K49 ?_
  refine A_H ?_
  refine A_A rfl (A_n rfl rfl (by omega) (by omega)) ?_
  refine emm rfl ?_
  refine A_O ?_
  refine A_U (s:=(i)) (i+1) ⟨(by omega),‹_›,(fun t t0 t1=>by by_cases ht:t=i;(rw [ht];exact Classical.not_not.1 h113);exact km t t0 (by omega))⟩ (by omega) (A_J ⟨rfl,rfl,rfl,rfl,rfl,rfl,trivial⟩ rfl)
 have hmm:mtch r ws cs (recL r ws cs):=fun t t0 t1=>by rw [<- her];exact km t t0 (by omega)
 have hqk:recE r ws cs=0:=recE_0 hz hmm
 refine A_e ?_
 refine A_0 K45 ?_
 refine esk rfl ?_
 refine A_Q ?_
 exact retR2 (.inr rfl) results45 (A_L (A_S rfl (cv_sl sub_x (by exact (recV_0 hqk).symm)))) (A_L (A_S rfl (A_Z (by exact hqk.symm))))
end Go.Proofs.Ytaipghchkamajaa

