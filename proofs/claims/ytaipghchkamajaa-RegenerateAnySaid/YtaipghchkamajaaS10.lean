/-
  Facts for the law RegenerateAny.
-/
import Derived.Test.YtaipghchkamajaaS9
open Go Go.Cw
namespace Go.Proofs.Ytaipghchkamajaa
open Try
set_option maxRecDepth 100000
set_option linter.unusedVariables false
set_option linter.unusedSimpArgs false
theorem RegenerateAny_ok (r:Rgn) (l ws:List Int) (hk1 : -9223372036854775808<=r.K) (hk2:r.K<=9223372036854775807) (hd1 : -9223372036854775808<=r.D) (hd2:r.D<=9223372036854775807):Ctr Try.prog 15 [aRgn r,aSl 1 false aInt l,aSl 1 false aInt ws] (aBool true):=by
 refine ctr_of Try.call15 func15 rfl rfl ?_
 intro w O
 refine A_o 0 2 rfl rfl (fun hlen0_2=>?_)
 refine A_o 0 6 rfl rfl (fun hlen0_6=>?_)
 refine ent_len 1 rfl (fun hlen1=>?_)
 refine ent_len 2 rfl (fun hlen2=>?_)
 refine esr rfl fun _ K1=>?_
 refine A_y rfl rfl (AllOne.mem ⟨(A_N _),(A_N _),A_j,(A_N _),(A_N _),(A_N _),A_j,trivial⟩) (fun b3_1=>?_)
 refine emm rfl ?_
 refine enk K1 ?_
 refine A_C fun _ K2=>?_
 refine A_C fun _ K3=>?_
 refine ent_cut (⟨[(1,aSl 1 false aInt l),(2,aSl 1 false aInt ws),(3,aEx (.pointer (some ⟨b3_1,0,none⟩))),(24,aBool (decide ((¬((r.Points.length:Int)<=12/\rgErr r=0))\/((nodErr r.Points.length r.K (-1) ws)≠0))))],[oBox b3_1 53 [aInt r.F.P,aInt r.F.M,aSl 1 false aInt r.F.mod,aInt r.Kind,aInt r.K,aInt r.D,aSl 1 false aInt r.Points]]⟩) ?_ ?_
 ·refine A_H ?_
  refine A_A rfl (A_R (k:=0) ti53 rfl rfl rfl) ?_
  refine A_A rfl (A_W (small_ok r ‹_› ‹_› ‹_› ‹_›) rfl) ?_
  refine A_A rfl (ok_notD rfl) ?_
  refine emm rfl ?_
  refine A_2 rfl rfl rfl rfl (fun hg17=>?_) (fun hg17=>?_)
  ·refine A_A rfl (A_R (k:=0) ti53 rfl rfl rfl) ?_
   refine A_M rfl rfl rfl rfl (decide_eq_false hg17) ?_
   refine emm rfl ?_
   refine A_M rfl rfl rfl rfl (decide_eq_false hg17) ?_
   refine A_A rfl (A_B runUnderlying53 rfl sizeOf3 (by decide) rfl) ?_
   refine A_M rfl rfl rfl rfl (decide_eq_false hg17) ?_
   refine A_A rfl (A_I (k:=0) isAgg3 rfl rfl rfl) ?_
   refine A_M rfl rfl rfl rfl (decide_eq_false hg17) ?_
   refine A_A rfl (A_W (rNodes_ok r ws r.K (-1)) rfl) ?_
   refine A_M rfl rfl rfl rfl (decide_eq_false hg17) ?_
   refine A_A rfl (ok_neq rfl rfl) ?_
   refine A_A rfl (A_1 rfl (decide_eq_false hg17) rfl) ?_
   refine A_O ?_
   exact A_J ⟨rfl,rfl,rfl,A_X (dq_Q ((or_iff_right hg17).trans Iff.rfl)),trivial⟩ rfl
  refine A_E rfl rfl rfl rfl (decide_eq_true hg17) ?_
  refine A_E rfl rfl rfl rfl (decide_eq_true hg17) ?_
  refine A_E rfl rfl rfl rfl (decide_eq_true hg17) ?_
  refine A_E rfl rfl rfl rfl (decide_eq_true hg17) ?_
  refine A_E rfl rfl rfl rfl (decide_eq_true hg17) ?_
  refine A_A rfl (A_m rfl (decide_eq_true hg17) rfl) ?_
  refine A_O ?_
  exact A_J ⟨rfl,rfl,rfl,A_X (dq_T rfl (Or.inl hg17)),trivial⟩ rfl
 refine A_0 K3 ?_
 refine A_G rfl (fun h24=>?_) (fun h24=>?_)
 ·refine esk rfl ?_
  refine A_Q ?_
  exact retR1 (.inr rfl) results15 (A_L (A_S rfl (cv_bool rfl)))
 have hsm:(r.Points.length:Int)<=12/\rgErr r=0:=Classical.byContradiction fun h=>h24 (.inl h)
 have hnd:nodErr r.Points.length r.K (-1) ws=0:=Classical.byContradiction fun h=>h24 (.inr h)
 have R:=rgErr_zero.1 hsm.2
 have hF:=R.fld
 have hS:=hF.1
 have hbr:=rgB_rng R
 have lf:=length_fileL r l
 have of:=file_out hS l
 have e1:=file_err R l
 have lf2:((fileL r l).length:Int)=rgB r:=by omega
 have q1:=encR_ok e1
 have l1:((encR r (fileL r l)).length:Int)=r.Points.length:=by rw [q1];exact enc_len lf2 lf2
 have hAF:=any_facts R lf2 of hnd
 have hn3:=nodErr_zero hnd
 have hrk:=R.rng
 unfold rgBad at hrk
 have hwl:=hn3.1
 refine esp K2 ?_
 refine esr rfl fun _ K5=>?_
 refine A_A rfl (A_R (k:=0) ti53 rfl rfl rfl) ?_
 refine emm rfl ?_
 refine A_A rfl (A_W (CtrF.ctr (CtrF.sl (file_ok r l ‹_›))) rfl) ?_
 refine emm rfl ?_
 refine enk K5 ?_
 refine esr rfl fun _ K6=>?_
 refine A_A rfl (A_R (k:=0) ti53 rfl rfl rfl) ?_
 refine emm rfl ?_
 refine A_A rfl (A_W (Encode_ok r (fileL r l) ‹_› ‹_› ‹_› ‹_›) rfl) ?_
 refine emm rfl ?_
 refine A_A rfl (A_T rfl rfl) ?_
 refine A_A rfl (A_T rfl rfl) ?_
 refine emm rfl ?_
 refine enk K6 ?_
 refine A_C fun _ K7=>?_
 refine A_C fun _ K8=>?_
 refine ent_cut (⟨[(2,aSl 1 false aInt ws),(3,aEx (.pointer (some ⟨b3_1,0,none⟩))),(7,aSl 1 false aInt (fileL r l)),(8,aSl 1 false aInts (encR r (fileL r l))),(43,aBool (decide (((encErr r (fileL r l))≠0)\/((↑(encR r (fileL r l)).length:Int)≠(↑r.Points.length:Int)))))],[oBox b3_1 53 [aInt r.F.P,aInt r.F.M,aSl 1 false aInt r.F.mod,aInt r.Kind,aInt r.K,aInt r.D,aSl 1 false aInt r.Points]]⟩) ?_ ?_
 ·refine A_H ?_
  refine emm rfl ?_
  refine A_A rfl (ok_neq rfl rfl) ?_
  refine emm rfl ?_
  refine A_2 rfl rfl rfl rfl (fun hg36=>?_) (fun hg36=>?_)
  ·refine emm rfl ?_
   refine A_M rfl rfl rfl rfl (decide_eq_false hg36) ?_
   refine A_A rfl (ok_len rfl runUnderlying65 rfl) ?_
   refine A_M rfl rfl rfl rfl (decide_eq_false hg36) ?_
   refine A_A rfl (A_B runUnderlying53 rfl sizeOf29 (by decide) rfl) ?_
   refine A_M rfl rfl rfl rfl (decide_eq_false hg36) ?_
   refine A_A rfl (A_I (k:=0) isAgg29 rfl rfl rfl) ?_
   refine A_M rfl rfl rfl rfl (decide_eq_false hg36) ?_
   refine A_A rfl (ok_len rfl runUnderlying29 rfl) ?_
   refine A_M rfl rfl rfl rfl (decide_eq_false hg36) ?_
   refine A_A rfl (ok_neq rfl rfl) ?_
   refine A_A rfl (A_1 rfl (decide_eq_false hg36) rfl) ?_
   refine A_O ?_
   exact A_J ⟨rfl,rfl,rfl,rfl,A_X (dq_Q ((or_iff_right hg36).trans Iff.rfl)),trivial⟩ rfl
  refine A_E rfl rfl rfl rfl (decide_eq_true hg36) ?_
  refine A_E rfl rfl rfl rfl (decide_eq_true hg36) ?_
  refine A_E rfl rfl rfl rfl (decide_eq_true hg36) ?_
  refine A_E rfl rfl rfl rfl (decide_eq_true hg36) ?_
  refine A_E rfl rfl rfl rfl (decide_eq_true hg36) ?_
  refine A_A rfl (A_m rfl (decide_eq_true hg36) rfl) ?_
  refine A_O ?_
  exact A_J ⟨rfl,rfl,rfl,rfl,A_X (dq_T rfl (Or.inl hg36)),trivial⟩ rfl
 refine A_0 K8 ?_
 refine A_G rfl (fun h43=>?_) (fun h43=>?_)
 ·omega
 refine esp K7 ?_
 refine esk rfl ?_
 refine A_C fun _ K10=>?_
 refine esk rfl ?_
 refine A_K ?_
 refine ent_open 29 1 false aInts (fun _=>rfl) ?_
 refine A_d (fun (ss:Int×Option Nat×Nat)=>match ss with | (i,rr3,cc3)=>(⟨[(2,aSl 1 false aInt ws),(3,aEx (.pointer (some ⟨b3_1,0,none⟩))),(7,aSl 1 false aInt (fileL r l)),(8,aSl 1 false aInts (encR r (fileL r l))),(10,aEx (vec rr3 (((anyC r (fileL r l) ws).take i.toNat).length) cc3)),(11,aInt i)],[oVec rr3 cc3 29 1 false aInts ((anyC r (fileL r l) ws).take i.toNat),oBox b3_1 53 [aInt r.F.P,aInt r.F.M,aSl 1 false aInt r.F.mod,aInt r.Kind,aInt r.K,aInt r.D,aSl 1 false aInt r.Points]]⟩:St)) (fun (ss:Int×Option Nat×Nat)=>match ss with | (i,rr3,cc3)=>(0<=i)/\(i<=ws.length)) (fun (ss:Int×Option Nat×Nat)=>match ss with | (i,rr3,cc3)=>(ws.length-i).toNat) (0,none,0) ⟨(by omega),(by omega)⟩ (A_J ⟨rfl,rfl,rfl,rfl,A_V ((show aEx (vec none ([]:List _).length 0)=aEx (vec none (((anyC r (fileL r l) ws).take (0:Int).toNat).length) 0) from av_vec (congrArg List.length (show (anyC r (fileL r l) ws).take (0:Int).toNat = [] by rfl).symm))),A_V (A_p (show 0=(0:Int) by rfl)),trivial⟩ (A_F (A_s (show (anyC r (fileL r l) ws).take (0:Int).toNat = [] by rfl)) (rfl))) ?_
 rintro ⟨i,rr3,cc3⟩ ⟨h0,h1⟩
 show Ent _ ⟨_,[_,_]⟩ _
 have ltp:((anyC r (fileL r l) ws).take i.toNat).length=i.toNat:=by rw [List.length_take,length_anyC];omega
 refine A_C fun _ K12=>?_
 refine esr rfl fun _ K13=>?_
 refine A_A rfl (ok_len rfl runUnderlying29 rfl) ?_
 refine A_A rfl (A_r rfl rfl) ?_
 refine enk K13 ?_
 refine A_G rfl (fun h47=>?_) (fun h47=>?_)
 ·have hp:=hn3.2.1 _ (ix_mem 0 ws h0 h47)
  refine esp K12 ?_
  refine A_C fun _ K14=>?_
  refine A_K ?_
  refine A_H ?_
  refine emm rfl ?_
  refine A_A rfl (A_a 0 sl29 rfl rfl (by omega) (by omega)) ?_
  refine A_A rfl (A_P ti3 rfl) ?_
  refine A_A rfl (A_a [] sl65 rfl rfl (by omega) (by omega)) ?_
  refine A_A rfl (A_P ti29 rfl) ?_
  refine ent_appendL (k:=0) (enc:=aInts) (y:=ix [] (encR r (fileL r l)) (ix 0 ws i)) rfl rfl vt65 rfl rfl rfl rfl ((A_z A_j)) (by omega) (by omega) (by decide) (fun b59_4 c59_4=>?_)
  refine emm rfl ?_
  refine enk K14 ?_
  refine A_H ?_
  refine emm rfl ?_
  refine A_A rfl (A_n rfl rfl (by omega) (by omega)) ?_
  refine emm rfl ?_
  refine A_O ?_
  refine A_U (s:=(i,rr3,cc3)) (i+1,(some b59_4),c59_4) ⟨(by omega),‹_›⟩ (by dsimp only;omega) (A_J ⟨rfl,rfl,rfl,rfl,A_V (av_vec (congrArg List.length (show (anyC r (fileL r l) ws).take (i+1).toNat=((anyC r (fileL r l) ws).take i.toNat)++[ix [] (encR r (fileL r l)) (ix 0 ws i)] by rw [q1];exact anyC_succ h0 h47).symm)),rfl,trivial⟩ (A_F (A_s (show (anyC r (fileL r l) ws).take (i+1).toNat=((anyC r (fileL r l) ws).take i.toNat)++[ix [] (encR r (fileL r l)) (ix 0 ws i)] by rw [q1];exact anyC_succ h0 h47)) (rfl)))
 have htk:(anyC r (fileL r l) ws).take i.toNat=(anyC r (fileL r l) ws):=List.take_of_length_le (by rw [length_anyC];omega)
 have v1:=hAF.1
 have v2:=hAF.2
 refine A_e ?_
 refine A_0 K10 ?_
 refine A_C fun _ K15=>?_
 rw [htk]
 refine ent_give 0 10 rfl (cv_vec (k:=0) (off_erase rfl) rfl rfl) ?_
 refine A_H ?_
 refine A_A rfl (A_R (k:=0) ti53 rfl rfl rfl) ?_
 refine emm rfl ?_
 refine A_A rfl (A_W (Reconstruct_ok r ws (anyC r (fileL r l) ws) ‹_› ‹_› ‹_› ‹_›) rfl) ?_
 refine emm rfl ?_
 refine A_A rfl (A_T rfl rfl) ?_
 refine A_A rfl (A_T rfl rfl) ?_
 refine emm rfl ?_
 refine enk K15 ?_
 refine A_C fun _ K16=>?_
 refine ent_cut (⟨[(6,aBool (decide (((recE r ws (anyC r (fileL r l) ws))=0)/\((recV r ws (anyC r (fileL r l) ws))=(fileL r l)))))],[oBox b3_1 53 [aInt r.F.P,aInt r.F.M,aSl 1 false aInt r.F.mod,aInt r.Kind,aInt r.K,aInt r.D,aSl 1 false aInt r.Points]]⟩) ?_ ?_
 ·refine A_H ?_
  refine emm rfl ?_
  refine A_A rfl (ok_eql rfl rfl) ?_
  refine emm rfl ?_
  refine ent_guardXDt rfl rfl rfl rfl (fun hg69=>?_) (fun hg69=>?_)
  ·refine emm rfl ?_
   refine A_M rfl rfl rfl rfl (decide_eq_true hg69) ?_
   refine emm rfl ?_
   refine A_M rfl rfl rfl rfl (decide_eq_true hg69) ?_
   refine A_A rfl (A_W (SameInts_ok (recV r ws (anyC r (fileL r l) ws)) (fileL r l)) rfl) ?_
   refine A_A rfl (A_m rfl (decide_eq_true hg69) rfl) ?_
   refine emm rfl ?_
   refine A_O ?_
   exact A_J ⟨A_X (dq_Q ((and_iff_right hg69).trans Iff.rfl)),trivial⟩ rfl
  refine A_E rfl rfl rfl rfl (decide_eq_false hg69) ?_
  refine A_E rfl rfl rfl rfl (decide_eq_false hg69) ?_
  refine A_A rfl (A_1 rfl (decide_eq_false hg69) rfl) ?_
  refine emm rfl ?_
  refine A_O ?_
  exact A_J ⟨A_X (dq_F rfl (fun h=>hg69 h.1)),trivial⟩ rfl
 refine A_0 K16 ?_
 refine A_Q ?_
 exact retR1 (.inr rfl) results15 (A_L (A_S rfl (cv_bool (by exact decide_eq_true ⟨v1,v2⟩))))
end Go.Proofs.Ytaipghchkamajaa
