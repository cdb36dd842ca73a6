/-
  Walks of functions of the program and the reference.
-/
import Derived.Test.YtcilbmggiahciaaGreatZ14
open Go Go.Cw
namespace Go.Proofs.YtcilbmggiahciaaGreat
open Tryz
set_option maxRecDepth 100000
set_option linter.unusedVariables false
set_option linter.unusedSimpArgs false
theorem mCanonical_ok (f:Fld) (m:Mat)  : Ctr Tryz.prog 145 [aFld f,aMat m] (aTup [aMat (canM f m),aSl 1 false aInt (canP f m),aInt (mErr f m)]):=by
 refine A_p Tryz.call145 func145 rfl rfl ?_
 intro w O
 refine A_Y 0 2 rfl rfl (fun hlen0_2=>?_)
 refine A_Y 1 1 rfl rfl (fun hlen1_1=>?_)
 refine esr rfl fun _ K1=>?_
 refine A_h rfl rfl (AllOne.mem ⟨(A_F _),(A_F _),A_c,trivial⟩) (fun b2_1=>?_)
 refine A_h rfl rfl (AllOne.mem ⟨(A_F _),A_c,trivial⟩) (fun b3_2=>?_)
 refine ent_alloc (z:=.agg #[.int .i64 0,.slice none 0 0]) [aInt 0,aEx (.slice none 0 0)] rfl zv107 rfl zc107 (fun b4_3=>?_)
 refine emm rfl ?_
 refine enk K1 ?_
 refine esr rfl fun _ K2=>?_
 refine A_A rfl (A_P (k:=2) ti24 rfl rfl rfl) ?_
 refine A_A rfl (A_P (k:=1) ti107 rfl rfl rfl) ?_
 refine A_A rfl (ok_build1 (enc:=aMat) (y:=(⟨m.cols,m.rows⟩:Mat)) vt140 rfl (elem_agg (AllOne.mem ⟨(A_F _),A_c,trivial⟩)) (by decide)) ?_
 rcases Classical.em (mErr f m=0) with hm0 | hm0
 ·refine A_A rfl (A_S (open_ok f [(⟨m.cols,m.rows⟩:Mat)] (mErr_zero.1 hm0).1 (by intro q hq;simp only [List.mem_cons,List.not_mem_nil,or_false] at hq;subst hq;exact (mErr_zero.1 hm0).2) (by simp)) rfl) ?_
  refine emm rfl ?_
  refine A_A rfl (A_Q rfl rfl) ?_
  refine A_A rfl (A_Q rfl rfl) ?_
  refine emm rfl ?_
  refine enk K2 ?_
  refine A_C fun _ K3=>?_
  refine esr rfl fun _ K4=>?_
  refine A_A rfl (A_y rfl rfl) ?_
  refine enk K4 ?_
  refine ent_condFP rfl (by decide) ?_
  refine esp K3 ?_
  refine A_C fun _ K5=>?_
  have hF:=(mErr_zero.1 hm0).1
  have hme:=(mErr_zero.1 hm0).2
  have hsz:=mat_size hme
  have hgm:=mat_good hme
  refine A_D ?_
  refine emm rfl ?_
  refine A_A rfl (A_B runUnderlying107 rfl sizeOf25 (by decide) rfl) ?_
  refine A_A rfl (A_L (k:=1) isAgg25 rfl rfl rfl) ?_
  refine A_A rfl (A_B runUnderlying107 rfl sizeOf3 (by decide) rfl) ?_
  refine A_A rfl (A_L (k:=1) isAgg3 rfl rfl rfl) ?_
  refine A_A rfl (A_S (canon_ok f m.rows m.cols m.cols.toNat ‹_› hgm (by omega) (by omega) (by omega) (by omega)) rfl) ?_
  refine emm rfl ?_
  refine A_A rfl (A_Q rfl rfl) ?_
  refine A_A rfl (A_Q rfl rfl) ?_
  refine emm rfl ?_
  refine enk K5 ?_
  refine esr rfl fun _ K6=>?_
  refine A_A rfl (A_B runUnderlying107 rfl sizeOf3 (by decide) rfl) ?_
  refine A_A rfl (A_L (k:=1) isAgg3 rfl rfl rfl) ?_
  refine emm rfl ?_
  refine A_A rfl (ok_build st107 (As:=[aInt 0,aEx (.slice none 0 0)]) z107 (⟨0,1,rfl,.inl ⟨rfl,_,rfl,(A_F _),rfl,⟨1,1,rfl,.inl ⟨rfl,_,rfl,A_c,rfl,rfl⟩⟩⟩⟩)) ?_
  refine emm rfl ?_
  refine ent_storeBS (k:=0) sizeOf107 rfl rfl rfl (AllOne.mem ⟨(A_F _),A_c,trivial⟩) rfl rfl ?_
  show Ent _ ⟨_,[_,_,_]⟩ _
  refine emm rfl ?_
  refine enk K6 ?_
  refine A_R ?_
  exact retR3 (.inr rfl) results145 (resr_cell (k:=0) ti107 rfl rfl rfl (cv_agg ⟨A_a (by simp only [canM_ok hm0] <;> rfl),cv_sl sub_x (by simp only [canM_ok hm0] <;> rfl),trivial⟩)) (A_H (A_T rfl (cv_sl sub_x (by simp only [canP_ok hm0] <;> rfl)))) (A_H (A_T rfl (A_a (by exact hm0.symm))))
 refine A_A rfl (A_S (open_no f [(⟨m.cols,m.rows⟩:Mat)] (by rw [opErr_one];exact hm0)) rfl) ?_
 refine emm rfl ?_
 refine A_A rfl (A_Q rfl rfl) ?_
 refine A_A rfl (A_Q rfl rfl) ?_
 refine emm rfl ?_
 refine enk K2 ?_
 refine A_C fun _ K7=>?_
 refine esr rfl fun _ K8=>?_
 refine A_A rfl (A_y rfl rfl) ?_
 refine enk K8 ?_
 refine A_E rfl (fun h19=>?_) (fun h19=>?_)
 ·refine esr rfl fun _ K9=>?_
  refine A_A rfl (ok_build st107 (As:=[aInt 0,aEx (.slice none 0 0)]) z107 (rfl)) ?_
  refine emm rfl ?_
  refine ent_storeBS (k:=0) sizeOf107 rfl rfl rfl (AllOne.mem ⟨(A_F _),(one_ex rfl),trivial⟩) rfl rfl ?_
  show Ent _ ⟨_,[_,_,_]⟩ _
  refine emm rfl ?_
  refine enk K9 ?_
  refine A_R ?_
  exact retR3 (.inr rfl) results145 (resr_cell (k:=0) ti107 rfl rfl rfl (cv_agg ⟨A_a (by simp only [canM_no hm0] <;> rfl),cv_nil (fun _=>rfl) (by simp only [canM_no hm0] <;> rfl),trivial⟩)) (A_H (A_T rfl (cv_nil (fun _=>rfl) (by simp only [canP_no hm0] <;> rfl)))) (A_H (A_T rfl (A_a (by exact opErr_one f m))))
 exact absurd (Classical.not_not.1 h19) (by rw [opErr_one];exact hm0)

theorem mKernel_ok (f:Fld) (m:Mat)  : Ctr Tryz.prog 92 [aFld f,aMat m] (aTup [aMat (kerM f m),aInt (mErr f m)]):=by
 refine A_p Tryz.call92 func92 rfl rfl ?_
 intro w O
 refine A_Y 0 2 rfl rfl (fun hlen0_2=>?_)
 refine A_Y 1 1 rfl rfl (fun hlen1_1=>?_)
 refine esr rfl fun _ K1=>?_
 refine A_h rfl rfl (AllOne.mem ⟨(A_F _),(A_F _),A_c,trivial⟩) (fun b2_1=>?_)
 refine A_h rfl rfl (AllOne.mem ⟨(A_F _),A_c,trivial⟩) (fun b3_2=>?_)
 refine ent_alloc (z:=.agg #[.int .i64 0,.slice none 0 0]) [aInt 0,aEx (.slice none 0 0)] rfl zv107 rfl zc107 (fun b4_3=>?_)
 refine emm rfl ?_
 refine enk K1 ?_
 refine esr rfl fun _ K2=>?_
 refine A_A rfl (A_P (k:=2) ti24 rfl rfl rfl) ?_
 refine A_A rfl (A_P (k:=1) ti107 rfl rfl rfl) ?_
 refine A_A rfl (ok_build1 (enc:=aMat) (y:=(⟨m.cols,m.rows⟩:Mat)) vt140 rfl (elem_agg (AllOne.mem ⟨(A_F _),A_c,trivial⟩)) (by decide)) ?_
 rcases Classical.em (mErr f m=0) with hm0 | hm0
 ·refine A_A rfl (A_S (open_ok f [(⟨m.cols,m.rows⟩:Mat)] (mErr_zero.1 hm0).1 (by intro q hq;simp only [List.mem_cons,List.not_mem_nil,or_false] at hq;subst hq;exact (mErr_zero.1 hm0).2) (by simp)) rfl) ?_
  refine emm rfl ?_
  refine A_A rfl (A_Q rfl rfl) ?_
  refine A_A rfl (A_Q rfl rfl) ?_
  refine emm rfl ?_
  refine enk K2 ?_
  refine A_C fun _ K3=>?_
  refine esr rfl fun _ K4=>?_
  refine A_A rfl (A_y rfl rfl) ?_
  refine enk K4 ?_
  refine ent_condFP rfl (by decide) ?_
  refine esp K3 ?_
  refine A_C fun _ K5=>?_
  have hF:=(mErr_zero.1 hm0).1
  have hme:=(mErr_zero.1 hm0).2
  have hsz:=mat_size hme
  have hgm:=mat_good hme
  have hpl:=piv_le f m.rows [] m.cols.toNat
  refine A_D ?_
  refine emm rfl ?_
  refine A_A rfl (A_B runUnderlying107 rfl sizeOf25 (by decide) rfl) ?_
  refine A_A rfl (A_L (k:=1) isAgg25 rfl rfl rfl) ?_
  refine A_A rfl (A_B runUnderlying107 rfl sizeOf3 (by decide) rfl) ?_
  refine A_A rfl (A_L (k:=1) isAgg3 rfl rfl rfl) ?_
  refine A_A rfl (A_S (canon_ok f m.rows m.cols m.cols.toNat ‹_› hgm (by omega) (by omega) (by omega) (by omega)) rfl) ?_
  refine emm rfl ?_
  refine A_A rfl (A_Q rfl rfl) ?_
  refine A_A rfl (A_Q rfl rfl) ?_
  refine emm rfl ?_
  refine enk K5 ?_
  refine esk rfl ?_
  refine A_C fun _ K7=>?_
  refine esr rfl fun _ K8=>?_
  refine A_A rfl (A_B runUnderlying107 rfl sizeOf3 (by decide) rfl) ?_
  refine A_A rfl (A_L (k:=1) isAgg3 rfl rfl rfl) ?_
  refine emm rfl ?_
  refine enk K8 ?_
  refine A_K ?_
  refine ent_open 22 1 false aInts (fun _=>rfl) ?_
  refine A_g (fun (ss:Int×Option Nat×Nat)=>match ss with | (c,rr5,cc5)=>(⟨[(3,aEx (.pointer (some ⟨b3_2,0,none⟩))),(4,aEx (.pointer (some ⟨b4_3,0,none⟩))),(6,aGF f),(8,aSl 1 false aInts (canR (elim f m.rows [] m.cols.toNat))),(9,aSl 1 false aInt ((elim f m.rows [] m.cols.toNat).piv)),(10,aEx (vec rr5 ((kerL f (canR (elim f m.rows [] m.cols.toNat)) (elim f m.rows [] m.cols.toNat).piv m.cols c.toNat).length) cc5)),(36,aInt m.cols),(37,aInt c)],[oVec rr5 cc5 22 1 false aInts (kerL f (canR (elim f m.rows [] m.cols.toNat)) (elim f m.rows [] m.cols.toNat).piv m.cols c.toNat),oBox b4_3 107 [aInt 0,aEx (.slice none 0 0)],oBox b3_2 107 [aInt m.cols,aSl 1 false aInts m.rows],oBox b2_1 24 [aInt f.P,aInt f.M,aSl 1 false aInt f.mod]]⟩:St)) (fun (ss:Int×Option Nat×Nat)=>match ss with | (c,rr5,cc5)=>(0<=c)/\(c<=m.cols)) (fun (ss:Int×Option Nat×Nat)=>match ss with | (c,rr5,cc5)=>(m.cols-c).toNat) (0,none,0) ⟨(by omega),(by omega)⟩ (A_I ⟨rfl,rfl,rfl,rfl,rfl,A_W ((show aEx (vec none ([]:List _).length 0)=aEx (vec none ((kerL f (canR (elim f m.rows [] m.cols.toNat)) (elim f m.rows [] m.cols.toNat).piv m.cols (0:Int).toNat).length) 0) from av_vec (congrArg List.length (show kerL f (canR (elim f m.rows [] m.cols.toNat)) (elim f m.rows [] m.cols.toNat).piv m.cols (0:Int).toNat = [] by rfl).symm))),rfl,A_W (A_i (show 0=(0:Int) by rfl)),trivial⟩ (A_N (A_n (show kerL f (canR (elim f m.rows [] m.cols.toNat)) (elim f m.rows [] m.cols.toNat).piv m.cols (0:Int).toNat = [] by rfl)) (rfl))) ?_
  rintro ⟨c,rr5,cc5⟩ ⟨c0,c1⟩
  show Ent _ ⟨_,[_,_,_,_]⟩ _
  have hkl:=kerL_len f (canR (elim f m.rows [] m.cols.toNat)) (elim f m.rows [] m.cols.toNat).piv m.cols c.toNat
  refine esr rfl fun _ K9=>?_
  refine A_A rfl (A_o rfl rfl) ?_
  refine enk K9 ?_
  refine A_C fun _ K10=>?_
  refine A_E rfl (fun h38=>?_) (fun h38=>?_)
  ·refine esp K10 ?_
   refine A_C fun _ K11=>?_
   refine A_K ?_
   refine esk rfl ?_
   refine A_C fun _ K13=>?_
   refine esr rfl fun _ K14=>?_
   refine A_A rfl (A_S (Contains_ok ((elim f m.rows [] m.cols.toNat).piv) c) rfl) ?_
   refine enk K14 ?_
   refine A_E rfl (fun h42=>?_) (fun h42=>?_)
   ·refine A_e ?_
    refine A_s K11 ?_
    refine A_D ?_
    refine A_A rfl (A_m rfl rfl (by omega) (by omega)) ?_
    refine emm rfl ?_
    refine A_O ?_
    refine A_X (s:=(c,rr5,cc5)) (c+1,rr5,cc5) ⟨(by omega),‹_›⟩ (by dsimp only;omega) (A_I ⟨rfl,rfl,rfl,rfl,rfl,A_W (av_vec (congrArg List.length (show kerL f (canR (elim f m.rows [] m.cols.toNat)) (elim f m.rows [] m.cols.toNat).piv m.cols (c+1).toNat=kerL f (canR (elim f m.rows [] m.cols.toNat)) (elim f m.rows [] m.cols.toNat).piv m.cols c.toNat by exact kerL_in c0 h42).symm)),rfl,rfl,trivial⟩ (A_N (A_n (show kerL f (canR (elim f m.rows [] m.cols.toNat)) (elim f m.rows [] m.cols.toNat).piv m.cols (c+1).toNat=kerL f (canR (elim f m.rows [] m.cols.toNat)) (elim f m.rows [] m.cols.toNat).piv m.cols c.toNat by exact kerL_in c0 h42)) (rfl)))
   refine esp K13 ?_
   refine esr rfl fun _ K15=>?_
   refine A_A rfl (A_B runUnderlying107 rfl sizeOf3 (by decide) rfl) ?_
   refine A_A rfl (A_L (k:=2) isAgg3 rfl rfl rfl) ?_
   refine ent_make aInt 0 rfl vt22 rfl rfl (by omega) (by omega) (by omega) (fun _ _=>rfl) (AllV.mem ⟨rfl,trivial⟩) (fun b45_6=>?_)
   refine emm rfl ?_
   refine enk K15 ?_
   refine esr rfl fun _ K16=>?_
   refine A_A rfl (A_k sl22 rfl rfl (by omega) (by omega)) ?_
   refine ent_storeV (k:=0) (z:=1) ti3 rfl rfl rfl (A_u (A_F _)) (by omega) (by simp only [List.length_replicate];omega) ?_
   refine enk K16 ?_
   refine A_C fun _ K17=>?_
   refine esr rfl fun _ K18=>?_
   refine A_A rfl (A_z rfl runUnderlying22 rfl) ?_
   refine emm rfl ?_
   refine enk K18 ?_
   refine A_K ?_
   refine A_g (fun (i:Int)=>(⟨[(3,aEx (.pointer (some ⟨b3_2,0,none⟩))),(4,aEx (.pointer (some ⟨b4_3,0,none⟩))),(6,aGF f),(8,aSl 1 false aInts (canR (elim f m.rows [] m.cols.toNat))),(9,aSl 1 false aInt ((elim f m.rows [] m.cols.toNat).piv)),(10,aEx (vec rr5 ((kerL f (canR (elim f m.rows [] m.cols.toNat)) (elim f m.rows [] m.cols.toNat).piv m.cols c.toNat).length) cc5)),(11,aInt c),(12,aEx (vec (some b45_6) ((m.cols).toNat) ((m.cols).toNat))),(36,aInt m.cols),(37,aInt c),(49,aSl 1 false aInt ((elim f m.rows [] m.cols.toNat).piv)),(50,aInt (↑((elim f m.rows [] m.cols.toNat).piv).length:Int)),(51,aInt i)],[oVec (some b45_6) ((m.cols).toNat) 3 1 false aInt (kerTo f (canR (elim f m.rows [] m.cols.toNat)) (elim f m.rows [] m.cols.toNat).piv m.cols c i.toNat),oVec rr5 cc5 22 1 false aInts (kerL f (canR (elim f m.rows [] m.cols.toNat)) (elim f m.rows [] m.cols.toNat).piv m.cols c.toNat),oBox b4_3 107 [aInt 0,aEx (.slice none 0 0)],oBox b3_2 107 [aInt m.cols,aSl 1 false aInts m.rows],oBox b2_1 24 [aInt f.P,aInt f.M,aSl 1 false aInt f.mod]]⟩:St)) (fun (i:Int)=>(0<=i)/\(i<=(elim f m.rows [] m.cols.toNat).piv.length)) (fun (i:Int)=>((elim f m.rows [] m.cols.toNat).piv.length-i).toNat) 0 ⟨(by omega),(by omega)⟩ (A_I ⟨rfl,rfl,rfl,rfl,rfl,rfl,rfl,rfl,rfl,rfl,rfl,rfl,A_W (A_i (show 0=(0:Int) by rfl)),trivial⟩ (A_N (A_n (show kerTo f (canR (elim f m.rows [] m.cols.toNat)) (elim f m.rows [] m.cols.toNat).piv m.cols c (0:Int).toNat=List.set (List.replicate ((m.cols).toNat) 0) (c).toNat 1 by rfl)) (rfl))) ?_
   rintro i ⟨i0,i1⟩
   show Ent _ ⟨_,[_,_,_,_,_]⟩ _
   have lk:=length_kerTo f (canR (elim f m.rows [] m.cols.toNat)) (elim f m.rows [] m.cols.toNat).piv m.cols c i.toNat
   refine esr rfl fun _ K19=>?_
   refine A_A rfl (A_o rfl rfl) ?_
   refine enk K19 ?_
   refine A_C fun _ K20=>?_
   refine A_E rfl (fun h52=>?_) (fun h52=>?_)
   ·have hpi:=piv_ix f m.rows [] m.cols.toNat i0 h52
    have hlr:=length_canR f m.rows m.cols.toNat
    have hri:=wide_ix (good_wide (canR_good hF.1 hgm m.cols.toNat)) i0 (by omega)
    refine esp K20 ?_
    refine A_C fun _ K21=>?_
    refine A_K ?_
    refine esr rfl fun _ K22=>?_
    refine A_A rfl (A_d 0 sl22 rfl rfl (by omega) (by omega)) ?_
    refine A_A rfl (A_V ti3 rfl) ?_
    refine emm rfl ?_
    refine enk K22 ?_
    refine A_D ?_
    refine emm rfl ?_
    refine A_A rfl (A_d [] sl25 rfl rfl (by omega) (by omega)) ?_
    refine A_A rfl (A_V ti22 rfl) ?_
    refine emm rfl ?_
    refine A_A rfl (A_d 0 sl22 rfl rfl (by omega) (by omega)) ?_
    refine A_A rfl (A_V ti3 rfl) ?_
    refine A_A rfl (A_S (Neg_ok f (ix 0 (ix [] (canR (elim f m.rows [] m.cols.toNat)) i) c) ‹_›) rfl) ?_
    refine A_A rfl (A_k sl22 rfl rfl (by omega) (by omega)) ?_
    refine ent_storeV (k:=0) (z:=negF f (ix 0 (ix [] (canR (elim f m.rows [] m.cols.toNat)) i) c)) ti3 rfl rfl rfl (A_u (A_F _)) (by omega) (by omega) ?_
    refine enk K21 ?_
    refine A_D ?_
    refine A_A rfl (A_m rfl rfl (by omega) (by omega)) ?_
    refine emm rfl ?_
    refine A_O ?_
    refine A_X (s:=(i)) (i+1) ⟨(by omega),‹_›⟩ (by omega) (A_I ⟨rfl,rfl,rfl,rfl,rfl,rfl,rfl,rfl,rfl,rfl,rfl,rfl,rfl,trivial⟩ (A_N (A_n (show kerTo f (canR (elim f m.rows [] m.cols.toNat)) (elim f m.rows [] m.cols.toNat).piv m.cols c (i+1).toNat=List.set (kerTo f (canR (elim f m.rows [] m.cols.toNat)) (elim f m.rows [] m.cols.toNat).piv m.cols c i.toNat) (ix 0 ((elim f m.rows [] m.cols.toNat).piv) i).toNat (negF f (ix 0 (ix [] (canR (elim f m.rows [] m.cols.toNat)) i) c)) by exact kerTo_succ f _ _ _ _ i0)) (rfl)))
   refine A_e ?_
   refine A_s K17 ?_
   refine A_D ?_
   refine emm rfl ?_
   refine ent_give 0 70 rfl (cv_vec (k:=0) (off_erase rfl) (by simp) rfl) ?_
   refine ent_appendL (k:=0) (enc:=aInts) (y:=kerTo f (canR (elim f m.rows [] m.cols.toNat)) (elim f m.rows [] m.cols.toNat).piv m.cols c i.toNat) rfl rfl vt25 rfl rfl rfl rfl ((A_u A_c)) (by omega) (by omega) (by decide) (fun b72_7 c72_7=>?_)
   refine emm rfl ?_
   refine enk K11 ?_
   refine A_D ?_
   refine A_A rfl (A_m rfl rfl (by omega) (by omega)) ?_
   refine emm rfl ?_
   refine A_O ?_
   refine A_X (s:=(c,rr5,cc5)) (c+1,(some b72_7),c72_7) ⟨(by omega),‹_›⟩ (by dsimp only;omega) (A_I ⟨rfl,rfl,rfl,rfl,rfl,A_W (av_vec (congrArg List.length (show kerL f (canR (elim f m.rows [] m.cols.toNat)) (elim f m.rows [] m.cols.toNat).piv m.cols (c+1).toNat=(kerL f (canR (elim f m.rows [] m.cols.toNat)) (elim f m.rows [] m.cols.toNat).piv m.cols c.toNat)++[kerTo f (canR (elim f m.rows [] m.cols.toNat)) (elim f m.rows [] m.cols.toNat).piv m.cols c i.toNat] by rw [kerL_out c0 h42,show i.toNat=(elim f m.rows [] m.cols.toNat).piv.length by omega]).symm)),rfl,rfl,trivial⟩ (A_N (A_n (show kerL f (canR (elim f m.rows [] m.cols.toNat)) (elim f m.rows [] m.cols.toNat).piv m.cols (c+1).toNat=(kerL f (canR (elim f m.rows [] m.cols.toNat)) (elim f m.rows [] m.cols.toNat).piv m.cols c.toNat)++[kerTo f (canR (elim f m.rows [] m.cols.toNat)) (elim f m.rows [] m.cols.toNat).piv m.cols c i.toNat] by rw [kerL_out c0 h42,show i.toNat=(elim f m.rows [] m.cols.toNat).piv.length by omega])) (rfl)))
  have hcc:c=m.cols:=by omega
  have hkg:=ker_good hF.1 (canR (elim f m.rows [] m.cols.toNat)) (elim f m.rows [] m.cols.toNat).piv m.cols c.toNat
  refine A_e ?_
  refine A_s K7 ?_
  refine esr rfl fun _ K23=>?_
  refine A_A rfl (A_B runUnderlying107 rfl sizeOf3 (by decide) rfl) ?_
  refine A_A rfl (A_L (k:=2) isAgg3 rfl rfl rfl) ?_
  refine ent_give 0 76 rfl (cv_vec (k:=0) (off_erase rfl) rfl rfl) ?_
  refine A_A rfl (A_S (canon_ok f (kerL f (canR (elim f m.rows [] m.cols.toNat)) (elim f m.rows [] m.cols.toNat).piv m.cols c.toNat) m.cols m.cols.toNat ‹_› hkg (by omega) (by omega) (by omega) (by omega)) rfl) ?_
  refine emm rfl ?_
  refine A_A rfl (A_Q rfl rfl) ?_
  refine A_A rfl (A_Q rfl rfl) ?_
  refine emm rfl ?_
  refine enk K23 ?_
  refine esr rfl fun _ K24=>?_
  refine A_A rfl (A_B runUnderlying107 rfl sizeOf3 (by decide) rfl) ?_
  refine A_A rfl (A_L (k:=1) isAgg3 rfl rfl rfl) ?_
  refine emm rfl ?_
  refine A_A rfl (ok_build st107 (As:=[aInt 0,aEx (.slice none 0 0)]) z107 (⟨0,1,rfl,.inl ⟨rfl,_,rfl,(A_F _),rfl,⟨1,1,rfl,.inl ⟨rfl,_,rfl,A_c,rfl,rfl⟩⟩⟩⟩)) ?_
  refine ent_storeBS (k:=0) sizeOf107 rfl rfl rfl (AllOne.mem ⟨(A_F _),A_c,trivial⟩) rfl rfl ?_
  show Ent _ ⟨_,[_,_,_]⟩ _
  refine emm rfl ?_
  refine enk K24 ?_
  refine A_R ?_
  exact retR2 (.inr rfl) results92 (resr_cell (k:=0) ti107 rfl rfl rfl (cv_agg ⟨A_a (by simp only [kerM_ok hm0] <;> rfl),cv_sl sub_x (by simp only [kerM_ok hm0];unfold nullR kerX;rw [hcc]),trivial⟩)) (A_H (A_T rfl (A_a (by exact hm0.symm))))
 refine A_A rfl (A_S (open_no f [(⟨m.cols,m.rows⟩:Mat)] (by rw [opErr_one];exact hm0)) rfl) ?_
 refine emm rfl ?_
 refine A_A rfl (A_Q rfl rfl) ?_
 refine A_A rfl (A_Q rfl rfl) ?_
 refine emm rfl ?_
 refine enk K2 ?_
 refine A_C fun _ K25=>?_
 refine esr rfl fun _ K26=>?_
 refine A_A rfl (A_y rfl rfl) ?_
 refine enk K26 ?_
 refine A_E rfl (fun h23=>?_) (fun h23=>?_)
 ·refine esr rfl fun _ K27=>?_
  refine A_A rfl (ok_build st107 (As:=[aInt 0,aEx (.slice none 0 0)]) z107 (rfl)) ?_
  refine emm rfl ?_
  refine ent_storeBS (k:=0) sizeOf107 rfl rfl rfl (AllOne.mem ⟨(A_F _),(one_ex rfl),trivial⟩) rfl rfl ?_
  show Ent _ ⟨_,[_,_,_]⟩ _
  refine emm rfl ?_
  refine enk K27 ?_
  refine A_R ?_
  exact retR2 (.inr rfl) results92 (resr_cell (k:=0) ti107 rfl rfl rfl (cv_agg ⟨A_a (by simp only [kerM_no hm0] <;> rfl),cv_nil (fun _=>rfl) (by simp only [kerM_no hm0] <;> rfl),trivial⟩)) (A_H (A_T rfl (A_a (by exact opErr_one f m))))
 exact absurd (Classical.not_not.1 h23) (by rw [opErr_one];exact hm0)
end Go.Proofs.YtcilbmggiahciaaGreat

