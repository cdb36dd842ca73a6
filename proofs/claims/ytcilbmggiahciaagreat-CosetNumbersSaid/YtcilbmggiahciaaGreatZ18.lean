/-
  Walks of functions of the program and the reference.
-/
import Derived.Test.YtcilbmggiahciaaGreatZ15
open Go Go.Cw
namespace Go.Proofs.YtcilbmggiahciaaGreat
open Tryz
set_option maxRecDepth 100000
set_option linter.unusedVariables false
set_option linter.unusedSimpArgs false
theorem rEntries_ok (f:Fld) (l:List Int)  : Ctr Tryz.prog 80 [aFld f,aSl 1 false aInt l] (aInt (entErr f l)):=by
 refine A_p Tryz.call80 func80 rfl rfl ?_
 intro w O
 refine A_Y 0 2 rfl rfl (fun hlen0_2=>?_)
 refine A_x 1 rfl (fun hlen1=>?_)
 refine esr rfl fun _ K1=>?_
 refine A_h rfl rfl (AllOne.mem ⟨(A_F _),(A_F _),A_c,trivial⟩) (fun b2_1=>?_)
 refine emm rfl ?_
 refine enk K1 ?_
 refine A_C fun _ K2=>?_
 refine esk rfl ?_
 refine A_K ?_
 refine A_g (fun (i:Int)=>(⟨[(1,aSl 1 false aInt l),(2,aEx (.pointer (some ⟨b2_1,0,none⟩))),(5,aInt i)],[oBox b2_1 24 [aInt f.P,aInt f.M,aSl 1 false aInt f.mod]]⟩:St)) (fun (i:Int)=>(0<=i)/\(i<=l.length)/\(¬outF f (l.take i.toNat))) (fun (i:Int)=>(l.length-i).toNat) 0 ⟨(by omega),(by omega),(by simp [outF])⟩ (A_I ⟨rfl,rfl,A_W (A_i (show 0=(0:Int) by rfl)),trivial⟩ rfl) ?_
 rintro i ⟨h0,h1,hn⟩
 show Ent _ ⟨_,[_]⟩ _
 refine A_C fun _ K4=>?_
 refine esr rfl fun _ K5=>?_
 refine A_A rfl (A_z rfl runUnderlying22 rfl) ?_
 refine A_A rfl (A_o rfl rfl) ?_
 refine enk K5 ?_
 refine A_E rfl (fun h9=>?_) (fun h9=>?_)
 ·refine esp K4 ?_
  refine A_C fun _ K6=>?_
  refine A_K ?_
  refine A_C fun _ K7=>?_
  refine A_t 7 mixed (by kernel_rfl) (by kernel_rfl) (by kernel_rfl) ?_
  refine dw_o rfl (A_P (k:=0) ti24 rfl rfl rfl) ?_
  refine dw_o rfl (A_J rfl) ?_
  refine dw_o rfl (A_J rfl) ?_
  refine dw_o rfl (A_d 0 sl22 rfl rfl (by omega) (by omega)) ?_
  refine dw_o rfl (A_V ti3 rfl) ?_
  refine dw_o rfl (A_S (rIs_ok f (ix 0 l i)) rfl) ?_
  refine dw_o rfl (ok_notD rfl) ?_
  refine dw_nil ?_
  refine enk K7 ?_
  refine A_E rfl (fun h18=>?_) (fun h18=>?_)
  ·refine esk rfl ?_
   refine A_R ?_
   exact retR1 (.inr rfl) results80 (A_H (A_T rfl (A_a (by unfold entErr;rw [if_pos (outF_at h0 h9 h18)]))))
  refine esp K6 ?_
  refine A_D ?_
  refine emm rfl ?_
  refine A_A rfl (A_m rfl rfl (by omega) (by omega)) ?_
  refine emm rfl ?_
  refine A_O ?_
  refine A_X (s:=(i)) (i+1) ⟨(by omega),‹_›,(outF_succ h0 h9 hn (Classical.not_not.1 h18))⟩ (by omega) (A_I ⟨rfl,rfl,rfl,trivial⟩ rfl)
 refine A_e ?_
 refine A_s K2 ?_
 refine esk rfl ?_
 refine A_R ?_
 exact retR1 (.inr rfl) results80 (A_H (A_T rfl (A_a (by unfold entErr;rw [if_neg (by rw [List.take_of_length_le (by omega)] at hn;exact hn)]))))

theorem rMCheck_ok (f:Fld) (m:Mat)  : Ctr Tryz.prog 98 [aFld f,aMat m] (aInt (mErr f m)):=by
 refine A_p Tryz.call98 func98 rfl rfl ?_
 intro w O
 refine A_Y 0 2 rfl rfl (fun hlen0_2=>?_)
 refine A_Y 1 1 rfl rfl (fun hlen1_1=>?_)
 refine esr rfl fun _ K1=>?_
 refine A_h rfl rfl (AllOne.mem ⟨(A_F _),(A_F _),A_c,trivial⟩) (fun b2_1=>?_)
 refine A_h rfl rfl (AllOne.mem ⟨(A_F _),A_c,trivial⟩) (fun b3_2=>?_)
 refine emm rfl ?_
 refine enk K1 ?_
 refine esr rfl fun _ K2=>?_
 refine A_A rfl (A_P (k:=1) ti24 rfl rfl rfl) ?_
 refine A_A rfl (A_S (rCheck_ok f) rfl) ?_
 refine emm rfl ?_
 refine enk K2 ?_
 refine A_C fun _ K3=>?_
 refine esr rfl fun _ K4=>?_
 refine A_A rfl (A_y rfl rfl) ?_
 refine enk K4 ?_
 refine A_E rfl (fun h11=>?_) (fun h11=>?_)
 ·have hme:mErr f m=fErr f:=by unfold mErr fErr at *;split <;> simp_all
  refine esk rfl ?_
  refine A_R ?_
  exact retR1 (.inr rfl) results98 (A_H (A_T rfl (A_a (by exact hme.symm))))
 have hF:FOk f:=by unfold fErr at h11;by_cases h:FOk f;exact h;rw [if_neg h] at h11;exact absurd (by decide) h11
 have hme:=mErr_ok (m:=m) hF
 refine esp K3 ?_
 refine A_C fun _ K6=>?_
 refine A_C fun _ K7=>?_
 refine ent_cut (⟨[(2,aEx (.pointer (some ⟨b2_1,0,none⟩))),(3,aEx (.pointer (some ⟨b3_2,0,none⟩))),(26,aBool (decide (((m.cols<0)\/(256<m.cols))\/(256<(↑m.rows.length:Int)))))],[oBox b3_2 107 [aInt m.cols,aSl 1 false aInts m.rows],oBox b2_1 24 [aInt f.P,aInt f.M,aSl 1 false aInt f.mod]]⟩) ?_ ?_
 ·refine A_D ?_
  refine A_A rfl (A_B runUnderlying107 rfl sizeOf3 (by decide) rfl) ?_
  refine A_A rfl (A_L (k:=0) isAgg3 rfl rfl rfl) ?_
  refine A_A rfl (A_o rfl rfl) ?_
  refine emm rfl ?_
  refine A_v rfl rfl rfl rfl (fun hg16=>?_) (fun hg16=>?_)
  ·refine A_A rfl (A_B runUnderlying107 rfl sizeOf3 (by decide) rfl) ?_
   refine A_M rfl rfl rfl rfl (decide_eq_false hg16) ?_
   refine A_A rfl (A_L (k:=0) isAgg3 rfl rfl rfl) ?_
   refine A_M rfl rfl rfl rfl (decide_eq_false hg16) ?_
   refine A_A rfl (ok_gtr rfl rfl) ?_
   refine A_A rfl (A_r rfl (decide_eq_false hg16) rfl) ?_
   refine emm rfl ?_
   refine A_v rfl rfl rfl rfl (fun hg21=>?_) (fun hg21=>?_)
   ·refine A_A rfl (A_B runUnderlying107 rfl sizeOf25 (by decide) rfl) ?_
    refine A_M rfl rfl rfl rfl (decide_eq_false hg21) ?_
    refine A_A rfl (A_L (k:=0) isAgg25 rfl rfl rfl) ?_
    refine A_M rfl rfl rfl rfl (decide_eq_false hg21) ?_
    refine A_A rfl (A_z rfl runUnderlying25 rfl) ?_
    refine A_M rfl rfl rfl rfl (decide_eq_false hg21) ?_
    refine A_A rfl (ok_gtr rfl rfl) ?_
    refine A_A rfl (A_r rfl (decide_eq_false hg21) rfl) ?_
    refine A_O ?_
    exact A_I ⟨rfl,rfl,A_Z (dq_Q ((or_iff_right (fun h=>h.elim hg16 hg21)).trans Iff.rfl)),trivial⟩ rfl
   refine A_G rfl rfl rfl rfl (decide_eq_true hg21) ?_
   refine A_G rfl rfl rfl rfl (decide_eq_true hg21) ?_
   refine A_G rfl rfl rfl rfl (decide_eq_true hg21) ?_
   refine A_A rfl (A_l rfl (decide_eq_true hg21) rfl) ?_
   refine A_O ?_
   exact A_I ⟨rfl,rfl,A_Z (dq_T rfl (Or.inl (Or.inr hg21))),trivial⟩ rfl
  refine A_G rfl rfl rfl rfl (decide_eq_true hg16) ?_
  refine A_G rfl rfl rfl rfl (decide_eq_true hg16) ?_
  refine A_A rfl (A_l rfl (decide_eq_true hg16) rfl) ?_
  refine emm rfl ?_
  refine A_G rfl rfl rfl rfl rfl ?_
  refine A_G rfl rfl rfl rfl rfl ?_
  refine A_G rfl rfl rfl rfl rfl ?_
  refine A_G rfl rfl rfl rfl rfl ?_
  refine A_A rfl (A_l rfl rfl rfl) ?_
  refine A_O ?_
  exact A_I ⟨rfl,rfl,A_Z (dq_T rfl (Or.inl (Or.inl hg16))),trivial⟩ rfl
 refine A_s K7 ?_
 refine A_E rfl (fun h26=>?_) (fun h26=>?_)
 ·refine esk rfl ?_
  refine A_R ?_
  exact retR1 (.inr rfl) results98 (A_H (A_T rfl (A_a (by rw [hme];exact (matErr_shape h26).symm))))
 refine esp K6 ?_
 refine A_C fun _ K9=>?_
 refine esk rfl ?_
 refine A_K ?_
 refine A_g (fun (i:Int)=>(⟨[(2,aEx (.pointer (some ⟨b2_1,0,none⟩))),(3,aEx (.pointer (some ⟨b3_2,0,none⟩))),(6,aInt i)],[oBox b3_2 107 [aInt m.cols,aSl 1 false aInts m.rows],oBox b2_1 24 [aInt f.P,aInt f.M,aSl 1 false aInt f.mod]]⟩:St)) (fun (i:Int)=>(0<=i)/\(i<=m.rows.length)/\(∀l∈m.rows.take i.toNat,(l.length:Int)=m.cols)) (fun (i:Int)=>(m.rows.length-i).toNat) 0 ⟨(by omega),(by omega),(by simp)⟩ (A_I ⟨rfl,rfl,A_W (A_i (show 0=(0:Int) by rfl)),trivial⟩ rfl) ?_
 rintro i ⟨h0,h1,hn⟩
 show Ent _ ⟨_,[_,_]⟩ _
 refine A_C fun _ K11=>?_
 refine esr rfl fun _ K12=>?_
 refine A_A rfl (A_B runUnderlying107 rfl sizeOf25 (by decide) rfl) ?_
 refine A_A rfl (A_L (k:=0) isAgg25 rfl rfl rfl) ?_
 refine A_A rfl (A_z rfl runUnderlying25 rfl) ?_
 refine A_A rfl (A_o rfl rfl) ?_
 refine enk K12 ?_
 refine A_E rfl (fun h31=>?_) (fun h31=>?_)
 ·refine esp K11 ?_
  refine A_C fun _ K13=>?_
  refine A_K ?_
  refine A_C fun _ K14=>?_
  refine A_t 9 mixed (by kernel_rfl) (by kernel_rfl) (by kernel_rfl) ?_
  refine dw_o rfl (A_B runUnderlying107 rfl sizeOf25 (by decide) rfl) ?_
  refine dw_o rfl (A_L (k:=0) isAgg25 rfl rfl rfl) ?_
  refine dw_o rfl (A_J rfl) ?_
  refine dw_o rfl (A_d [] sl25 rfl rfl (by omega) (by omega)) ?_
  refine dw_o rfl (A_V ti22 rfl) ?_
  refine dw_o rfl (A_z rfl runUnderlying22 rfl) ?_
  refine dw_o rfl (A_B runUnderlying107 rfl sizeOf3 (by decide) rfl) ?_
  refine dw_o rfl (A_L (k:=0) isAgg3 rfl rfl rfl) ?_
  refine dw_o rfl (A_y rfl rfl) ?_
  refine dw_nil ?_
  refine enk K14 ?_
  refine A_E rfl (fun h42=>?_) (fun h42=>?_)
  ·refine esk rfl ?_
   refine A_R ?_
   exact retR1 (.inr rfl) results98 (A_H (A_T rfl (A_a (by rw [hme];exact (matErr_rag (ragged_at h0 h31 h42)).symm))))
  refine esp K13 ?_
  refine A_D ?_
  refine emm rfl ?_
  refine A_A rfl (A_m rfl rfl (by omega) (by omega)) ?_
  refine emm rfl ?_
  refine A_O ?_
  refine A_X (s:=(i)) (i+1) ⟨(by omega),‹_›,(not_take_succ [] h0 h31 hn (Classical.not_not.1 h42))⟩ (by omega) (A_I ⟨rfl,rfl,rfl,trivial⟩ rfl)
 refine A_e ?_
 refine A_s K9 ?_
 refine A_C fun _ K16=>?_
 refine esk rfl ?_
 refine A_K ?_
 refine A_g (fun (j:Int)=>(⟨[(2,aEx (.pointer (some ⟨b2_1,0,none⟩))),(3,aEx (.pointer (some ⟨b3_2,0,none⟩))),(7,aInt j)],[oBox b3_2 107 [aInt m.cols,aSl 1 false aInts m.rows],oBox b2_1 24 [aInt f.P,aInt f.M,aSl 1 false aInt f.mod]]⟩:St)) (fun (j:Int)=>(0<=j)/\(j<=m.rows.length)/\(∀l∈m.rows.take j.toNat,entErr f l=0)) (fun (j:Int)=>(m.rows.length-j).toNat) 0 ⟨(by omega),(by omega),(by simp)⟩ (A_I ⟨rfl,rfl,A_W (A_i (show 0=(0:Int) by rfl)),trivial⟩ rfl) ?_
 rintro j ⟨k0,k1,kn⟩
 show Ent _ ⟨_,[_,_]⟩ _
 refine A_C fun _ K18=>?_
 refine esr rfl fun _ K19=>?_
 refine A_A rfl (A_B runUnderlying107 rfl sizeOf25 (by decide) rfl) ?_
 refine A_A rfl (A_L (k:=0) isAgg25 rfl rfl rfl) ?_
 refine A_A rfl (A_z rfl runUnderlying25 rfl) ?_
 refine A_A rfl (A_o rfl rfl) ?_
 refine enk K19 ?_
 refine A_E rfl (fun h47=>?_) (fun h47=>?_)
 ·refine esp K18 ?_
  refine A_C fun _ K20=>?_
  refine A_K ?_
  refine A_C fun _ K21=>?_
  refine A_t 8 mixed (by kernel_rfl) (by kernel_rfl) (by kernel_rfl) ?_
  refine dw_o rfl (A_P (k:=1) ti24 rfl rfl rfl) ?_
  refine dw_o rfl (A_B runUnderlying107 rfl sizeOf25 (by decide) rfl) ?_
  refine dw_o rfl (A_L (k:=0) isAgg25 rfl rfl rfl) ?_
  refine dw_o rfl (A_J rfl) ?_
  refine dw_o rfl (A_d [] sl25 rfl rfl (by omega) (by omega)) ?_
  refine dw_o rfl (A_V ti22 rfl) ?_
  refine dw_o rfl (A_S (rEntries_ok f (ix [] m.rows j)) rfl) ?_
  refine dw_o rfl (ok_assign rfl) ?_
  refine dw_nil ?_
  refine enk K21 ?_
  refine esr rfl fun _ K22=>?_
  refine A_A rfl (A_y rfl rfl) ?_
  refine enk K22 ?_
  refine A_E rfl (fun h58=>?_) (fun h58=>?_)
  ·refine esk rfl ?_
   refine A_R ?_
   exact retR1 (.inr rfl) results98 (A_H (A_T rfl (A_a (by rw [hme,entErr_two h58];exact (matErr_row h26 (not_ragged (take_all (by omega) hn)) (badRow_at k0 h47 h58)).symm))))
  refine esp K20 ?_
  refine A_D ?_
  refine emm rfl ?_
  refine A_A rfl (A_m rfl rfl (by omega) (by omega)) ?_
  refine emm rfl ?_
  refine A_O ?_
  refine A_X (s:=(j)) (j+1) ⟨(by omega),‹_›,(not_take_succ [] k0 h47 kn (Classical.not_not.1 h58))⟩ (by omega) (A_I ⟨rfl,rfl,rfl,trivial⟩ rfl)
 refine A_e ?_
 refine A_s K16 ?_
 refine esk rfl ?_
 refine A_R ?_
 exact retR1 (.inr rfl) results98 (A_H (A_T rfl (A_a (by rw [hme];exact (matErr_zero.2 ⟨h26,not_ragged (take_all (by omega) hn),not_badRow (take_all (by omega) kn)⟩).symm))))

theorem rCopy_ok (X:List (List Int)) (hx:X.length<=1000000) (hr:∀l∈X,l.length<=1000000):CtrN Tryz.prog 129 [aSl 1 false aInts X] 22 1 false aInts X:=by
 refine ctrN_of Tryz.call129 func129 rfl rfl ?_
 intro w O
 refine A_x 0 rfl (fun hlen0=>?_)
 refine esk rfl ?_
 refine esk rfl ?_
 refine A_C fun _ K3=>?_
 refine esk rfl ?_
 refine A_K ?_
 refine ent_open 22 1 false aInts (fun _=>rfl) ?_
 refine A_g (fun (ss:Int×Option Nat×Nat)=>match ss with | (i,rr2,cc2)=>(⟨[(0,aSl 1 false aInts X),(3,aEx (vec rr2 ((X.take i.toNat).length) cc2)),(4,aInt i)],[oVec rr2 cc2 22 1 false aInts (X.take i.toNat)]⟩:St)) (fun (ss:Int×Option Nat×Nat)=>match ss with | (i,rr2,cc2)=>(0<=i)/\(i<=X.length)) (fun (ss:Int×Option Nat×Nat)=>match ss with | (i,rr2,cc2)=>(X.length-i).toNat) (0,none,0) ⟨(by omega),(by omega)⟩ (A_I ⟨rfl,A_W ((show aEx (vec none ([]:List _).length 0)=aEx (vec none ((X.take (0:Int).toNat).length) 0) from av_vec (congrArg List.length (show X.take (0:Int).toNat = [] by rfl).symm))),A_W (A_i (show 0=(0:Int) by rfl)),trivial⟩ (A_N (A_n (show X.take (0:Int).toNat = [] by rfl)) (rfl))) ?_
 rintro ⟨i,rr2,cc2⟩ ⟨h0,h1⟩
 show Ent _ ⟨_,[_]⟩ _
 refine A_C fun _ K5=>?_
 refine esr rfl fun _ K6=>?_
 refine A_A rfl (A_z rfl runUnderlying25 rfl) ?_
 refine A_A rfl (A_o rfl rfl) ?_
 refine enk K6 ?_
 refine A_E rfl (fun h8=>?_) (fun h8=>?_)
 ·have hri:=hr _ (ix_mem [] X h0 h8)
  refine esp K5 ?_
  refine A_C fun _ K7=>?_
  refine A_K ?_
  refine A_D ?_
  refine emm rfl ?_
  refine ent_buildN aInt [] rfl vt22 (by decide) (rfl) rfl (fun b12_3=>?_)
  refine emm rfl ?_
  refine A_A rfl (A_d [] sl25 rfl rfl (by omega) (by omega)) ?_
  refine A_A rfl (A_V ti22 rfl) ?_
  refine ent_appendS (k:=0) rfl vt22 rfl rfl rfl rfl (cv_id sub_refl) (by simp only [List.length_append,List.length_cons,List.length_nil];omega) (by simp only [List.length_append,List.length_cons,List.length_nil];omega) (fun r17_3 cr17_3=>?_)
  refine ent_give 0 17 rfl (cv_vec (k:=0) (off_erase rfl) rfl rfl) ?_
  refine ent_appendL (k:=0) (enc:=aInts) (y:=[]++(ix [] X i)) rfl rfl vt25 rfl rfl rfl rfl ((A_u A_c)) (by simp;omega) (by simp;omega) (by decide) (fun b19_5 c19_5=>?_)
  refine emm rfl ?_
  refine enk K7 ?_
  refine A_D ?_
  refine emm rfl ?_
  refine A_A rfl (A_m rfl rfl (by omega) (by omega)) ?_
  refine emm rfl ?_
  refine A_O ?_
  refine A_X (s:=(i,rr2,cc2)) (i+1,(some b19_5),c19_5) ⟨(by omega),‹_›⟩ (by dsimp only;omega) (A_I ⟨rfl,A_W (av_vec (congrArg List.length (show X.take (i+1).toNat=(X.take i.toNat)++[[]++(ix [] X i)] by rw [take_succ_ix [] X h0 h8];simp).symm)),rfl,trivial⟩ (A_N (A_n (show X.take (i+1).toNat=(X.take i.toNat)++[[]++(ix [] X i)] by rw [take_succ_ix [] X h0 h8];simp)) (rfl)))
 refine A_e ?_
 refine A_s K3 ?_
 refine esk rfl ?_
 refine A_R ?_
 exact retN (k:=0) (.inr rfl) results129 rfl rfl rfl (by rw [List.take_of_length_le (by omega)])
end Go.Proofs.YtcilbmggiahciaaGreat

