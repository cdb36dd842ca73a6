/-
  Walks of functions of the program and the reference.
-/
import Derived.Test.YtcilbmggiahciaaGreatCiLib
import Derived.Test.YtcilbmggiahciaaGreatZ20
set_option linter.unnecessarySimpa false
open Go Go.Cw
namespace Go.Proofs.YtcilbmggiahciaaGreat
open Tryz
set_option maxRecDepth 100000
set_option linter.unusedVariables false
set_option linter.unusedSimpArgs false

abbrev aCod (c:Cod):AV:=aAgg [aInt c.F.P,aInt c.F.M,aInts c.F.mod,aInt c.N,aRows c.Gen]

theorem Equal_ok (a b:List Int)  : Ctr Tryz.prog 147 [aSl 1 false aInt a,aSl 1 false aInt b] (aBool (decide (a=b))):=by
 refine A_p Tryz.call147 func147 rfl rfl ?_
 intro w O
 refine A_x 0 rfl (fun hlen0=>?_)
 refine A_x 1 rfl (fun hlen1=>?_)
 refine esk rfl ?_
 refine A_C fun _ K2=>?_
 refine esr rfl fun _ K3=>?_
 refine A_A rfl (A_z rfl runUnderlying22 rfl) ?_
 refine emm rfl ?_
 refine A_A rfl (A_z rfl runUnderlying22 rfl) ?_
 refine A_A rfl (A_y rfl rfl) ?_
 refine enk K3 ?_
 refine A_E rfl (fun h10=>?_) (fun h10=>?_)
 ·refine esk rfl ?_
  refine A_R ?_
  exact retR1 (.inr rfl) results147 (A_H (A_T rfl (cv_bool (by exact (decide_eq_false (fun h=>h10 (by rw [h]))).symm))))
 refine esp K2 ?_
 refine A_C fun _ K5=>?_
 refine esr rfl fun _ K6=>?_
 refine A_A rfl (A_z rfl runUnderlying22 rfl) ?_
 refine emm rfl ?_
 refine enk K6 ?_
 refine A_K ?_
 refine A_g (fun (i:Int)=>(⟨[(0,aSl 1 false aInt a),(1,aSl 1 false aInt b),(12,aInt (↑a.length:Int)),(13,aInt i)],[]⟩:St)) (fun (i:Int)=>(0<=i)/\(i<=a.length)/\(∀j:Int,0<=j->j<i->ix 0 a j=ix 0 b j)) (fun (i:Int)=>(a.length-i).toNat) 0 ⟨(by omega),(by omega),(fun j j0 j1=>by omega)⟩ (A_I ⟨rfl,rfl,rfl,A_W (A_i (show 0=(0:Int) by rfl)),trivial⟩ rfl) ?_
 rintro i ⟨h0,h1,hn⟩
 show Ent _ ⟨_,[]⟩ _
 refine esr rfl fun _ K7=>?_
 refine A_A rfl (A_o rfl rfl) ?_
 refine enk K7 ?_
 refine A_C fun _ K8=>?_
 refine A_E rfl (fun h14=>?_) (fun h14=>?_)
 ·refine esp K8 ?_
  refine A_C fun _ K9=>?_
  refine A_K ?_
  refine esk rfl ?_
  refine A_C fun _ K11=>?_
  refine A_t 9 mixed (by kernel_rfl) (by kernel_rfl) (by kernel_rfl) ?_
  refine dw_o rfl (A_J rfl) ?_
  refine dw_o rfl (A_J rfl) ?_
  refine dw_o rfl (A_d 0 sl22 rfl rfl (by omega) (by omega)) ?_
  refine dw_o rfl (A_V ti3 rfl) ?_
  refine dw_o rfl (A_J rfl) ?_
  refine dw_o rfl (A_J rfl) ?_
  refine dw_o rfl (A_d 0 sl22 rfl rfl (by omega) (by omega)) ?_
  refine dw_o rfl (A_V ti3 rfl) ?_
  refine dw_o rfl (A_y rfl rfl) ?_
  refine dw_nil ?_
  refine enk K11 ?_
  refine A_E rfl (fun h24=>?_) (fun h24=>?_)
  ·refine esk rfl ?_
   refine A_R ?_
   exact retR1 (.inr rfl) results147 (A_H (A_T rfl (cv_bool (by exact (decide_eq_false (fun h=>h24 (by rw [h]))).symm))))
  refine esp K9 ?_
  refine A_D ?_
  refine A_A rfl (A_m rfl rfl (by omega) (by omega)) ?_
  refine emm rfl ?_
  refine A_O ?_
  refine A_X (s:=(i)) (i+1) ⟨(by omega),‹_›,(fun j j0 j1=>by by_cases hj:j=i;(rw [hj];exact Classical.not_not.1 h24);exact hn j j0 (by omega))⟩ (by omega) (A_I ⟨rfl,rfl,rfl,rfl,trivial⟩ rfl)
 refine A_e ?_
 refine A_s K5 ?_
 refine esk rfl ?_
 refine A_R ?_
 exact retR1 (.inr rfl) results147 (A_H (A_T rfl (cv_bool (by exact (decide_eq_true (ext_ix 0 (by omega) (fun j j0 j1=>hn j j0 (by omega)))).symm))))

theorem EqualFunc_ok (a b:List (List Int))  : Ctr Tryz.prog 146 [aSl 1 false aInts a,aSl 1 false aInts b,aClo 147 []] (aBool (decide (a=b))):=by
 refine A_p Tryz.call146 func146 rfl rfl ?_
 intro w O
 refine A_x 0 rfl (fun hlen0=>?_)
 refine A_x 1 rfl (fun hlen1=>?_)
 refine esk rfl ?_
 refine A_C fun _ K2=>?_
 refine esr rfl fun _ K3=>?_
 refine A_A rfl (A_z rfl runUnderlying25 rfl) ?_
 refine emm rfl ?_
 refine A_A rfl (A_z rfl runUnderlying25 rfl) ?_
 refine A_A rfl (A_y rfl rfl) ?_
 refine enk K3 ?_
 refine A_E rfl (fun h14=>?_) (fun h14=>?_)
 ·refine esk rfl ?_
  refine A_R ?_
  exact retR1 (.inr rfl) results146 (A_H (A_T rfl (cv_bool (by exact (decide_eq_false (fun h=>h14 (by rw [h]))).symm))))
 refine esp K2 ?_
 refine A_C fun _ K5=>?_
 refine esr rfl fun _ K6=>?_
 refine A_A rfl (A_z rfl runUnderlying25 rfl) ?_
 refine emm rfl ?_
 refine enk K6 ?_
 refine A_K ?_
 refine A_g (fun (i:Int)=>(⟨[(1,aSl 1 false aInts b),(2,aClo 147 []),(15,aSl 1 false aInts a),(16,aInt (↑a.length:Int)),(17,aInt i)],[]⟩:St)) (fun (i:Int)=>(0<=i)/\(i<=a.length)/\(∀j:Int,0<=j->j<i->ix [] a j=ix [] b j)) (fun (i:Int)=>(a.length-i).toNat) 0 ⟨(by omega),(by omega),(fun j j0 j1=>by omega)⟩ (A_I ⟨rfl,rfl,rfl,rfl,A_W (A_i (show 0=(0:Int) by rfl)),trivial⟩ rfl) ?_
 rintro i ⟨h0,h1,hn⟩
 show Ent _ ⟨_,[]⟩ _
 refine esr rfl fun _ K7=>?_
 refine A_A rfl (A_o rfl rfl) ?_
 refine enk K7 ?_
 refine A_C fun _ K8=>?_
 refine A_E rfl (fun h18=>?_) (fun h18=>?_)
 ·refine esp K8 ?_
  refine A_C fun _ K9=>?_
  refine A_K ?_
  refine esr rfl fun _ K10=>?_
  refine A_A rfl (A_d [] sl25 rfl rfl (by omega) (by omega)) ?_
  refine A_A rfl (A_V ti22 rfl) ?_
  refine emm rfl ?_
  refine enk K10 ?_
  refine esr rfl fun _ K11=>?_
  refine A_A rfl (A_d [] sl25 rfl rfl (by omega) (by omega)) ?_
  refine A_A rfl (A_V ti22 rfl) ?_
  refine emm rfl ?_
  refine enk K11 ?_
  refine esr rfl fun _ K12=>?_
  refine A_A rfl (ok_callFV (As:=[aSl 1 false aInt (ix [] a i),aSl 1 false aInt (ix [] b i)]) (Bs:=[]) (Equal_ok (ix [] a i) (ix [] b i)) rfl ⟨arg_a rfl (cv_id sub_refl),arg_a rfl (cv_id sub_refl),trivial⟩) ?_
  refine A_A rfl (ok_notD rfl) ?_
  refine enk K12 ?_
  refine A_E rfl (fun h30=>?_) (fun h30=>?_)
  ·refine esk rfl ?_
   refine A_R ?_
   exact retR1 (.inr rfl) results146 (A_H (A_T rfl (cv_bool (by exact (decide_eq_false (fun h=>h30 (by rw [h]))).symm))))
  refine esp K9 ?_
  refine A_D ?_
  refine A_A rfl (A_m rfl rfl (by omega) (by omega)) ?_
  refine emm rfl ?_
  refine A_O ?_
  refine A_X (s:=(i)) (i+1) ⟨(by omega),‹_›,(fun j j0 j1=>by by_cases hj:j=i;(rw [hj];exact Classical.not_not.1 h30);exact hn j j0 (by omega))⟩ (by omega) (A_I ⟨rfl,rfl,rfl,rfl,rfl,trivial⟩ rfl)
 refine A_e ?_
 refine A_s K5 ?_
 refine esk rfl ?_
 refine A_R ?_
 exact retR1 (.inr rfl) results146 (A_H (A_T rfl (cv_bool (by exact (decide_eq_true (ext_ix [] (by omega) (fun j j0 j1=>hn j j0 (by omega)))).symm))))

theorem Exp_ok (q k m:Int) (hq:2<=q) (hq2:q<=65536) (hk:0<=k) (hk2:k<=9223372036854775807) (hm:1<=m) (hm2:m<=1000000):Ctr Tryz.prog 85 [aInt q,aInt k,aInt m] (aTup [aInt (expF q k m),aInt (expE q k m)]):=by
 refine A_p Tryz.call85 func85 rfl rfl ?_
 intro w O
 refine esk rfl ?_
 refine A_C fun _ K2=>?_
 refine A_C fun _ K3=>?_
 refine ent_cut (⟨[(0,aInt q),(1,aInt k),(2,aInt m),(18,aBool (decide (((q<0)\/(k<0))\/(m<0))))],[]⟩) ?_ ?_
 ·refine A_D ?_
  refine emm rfl ?_
  refine A_A rfl (A_o rfl rfl) ?_
  refine emm rfl ?_
  refine A_v rfl rfl rfl rfl (fun hg11=>?_) (fun hg11=>?_)
  ·refine emm rfl ?_
   refine A_M rfl rfl rfl rfl (decide_eq_false hg11) ?_
   refine A_A rfl (A_o rfl rfl) ?_
   refine A_A rfl (A_r rfl (decide_eq_false hg11) rfl) ?_
   refine emm rfl ?_
   refine A_v rfl rfl rfl rfl (fun hg15=>?_) (fun hg15=>?_)
   ·refine emm rfl ?_
    refine A_M rfl rfl rfl rfl (decide_eq_false hg15) ?_
    refine A_A rfl (A_o rfl rfl) ?_
    refine A_A rfl (A_r rfl (decide_eq_false hg15) rfl) ?_
    refine A_O ?_
    exact A_I ⟨rfl,rfl,rfl,A_Z (dq_Q ((or_iff_right (fun h=>h.elim hg11 hg15)).trans Iff.rfl)),trivial⟩ rfl
   refine A_G rfl rfl rfl rfl (decide_eq_true hg15) ?_
   refine A_A rfl (A_l rfl (decide_eq_true hg15) rfl) ?_
   refine A_O ?_
   exact A_I ⟨rfl,rfl,rfl,A_Z (dq_T rfl (Or.inl (Or.inr hg15))),trivial⟩ rfl
  refine A_G rfl rfl rfl rfl (decide_eq_true hg11) ?_
  refine A_A rfl (A_l rfl (decide_eq_true hg11) rfl) ?_
  refine emm rfl ?_
  refine A_G rfl rfl rfl rfl rfl ?_
  refine A_G rfl rfl rfl rfl rfl ?_
  refine A_A rfl (A_l rfl rfl rfl) ?_
  refine A_O ?_
  exact A_I ⟨rfl,rfl,rfl,A_Z (dq_T rfl (Or.inl (Or.inl hg11))),trivial⟩ rfl
 refine A_s K3 ?_
 refine A_E rfl (fun h18=>?_) (fun h18=>?_)
 ·omega
 refine esp K2 ?_
 refine A_C fun _ K4=>?_
 refine A_C fun _ K5=>?_
 refine ent_cut (⟨[(0,aInt q),(1,aInt k),(2,aInt m),(24,aBool (decide ((q=0)/\(0<k))))],[]⟩) ?_ ?_
 ·refine A_D ?_
  refine emm rfl ?_
  refine A_A rfl (ok_eql rfl rfl) ?_
  refine emm rfl ?_
  refine ent_guardXDt rfl rfl rfl rfl (fun hg21=>?_) (fun hg21=>?_)
  ·refine emm rfl ?_
   refine A_M rfl rfl rfl rfl (decide_eq_true hg21) ?_
   refine A_A rfl (ok_gtr rfl rfl) ?_
   refine A_A rfl (A_l rfl (decide_eq_true hg21) rfl) ?_
   refine A_O ?_
   exact A_I ⟨rfl,rfl,rfl,A_Z (dq_Q ((and_iff_right hg21).trans Iff.rfl)),trivial⟩ rfl
  refine A_G rfl rfl rfl rfl (decide_eq_false hg21) ?_
  refine A_A rfl (A_r rfl (decide_eq_false hg21) rfl) ?_
  refine A_O ?_
  exact A_I ⟨rfl,rfl,rfl,A_Z (dq_F rfl (fun h=>hg21 h.1)),trivial⟩ rfl
 refine A_s K5 ?_
 refine A_E rfl (fun h24=>?_) (fun h24=>?_)
 ·omega
 refine esp K4 ?_
 refine A_C fun _ K6=>?_
 refine esr rfl fun _ K7=>?_
 refine A_A rfl (ok_eql rfl rfl) ?_
 refine enk K7 ?_
 refine A_E rfl (fun h26=>?_) (fun h26=>?_)
 ·omega
 refine esp K6 ?_
 refine esk rfl ?_
 refine A_C fun _ K9=>?_
 refine A_K ?_
 refine A_g (fun (j:Int)=>(⟨[(0,aInt q),(1,aInt (k-j)),(2,aInt m),(8,aInt (q^j.toNat))],[]⟩:St)) (fun (j:Int)=>(0<=j)/\(j<=k)/\(q^j.toNat<=m)) (fun (j:Int)=>(k-j).toNat) 0 ⟨(by omega),‹_›,(by simpa using hm)⟩ (A_I ⟨rfl,A_W (A_i (show k=k-(0:Int) by omega)),rfl,A_W (A_i (show 1=q^(0:Int).toNat by simp)),trivial⟩ rfl) ?_
 rintro j ⟨h0,h1,h2⟩
 show Ent _ ⟨_,[]⟩ _
 refine A_C fun _ K10=>?_
 refine A_C fun _ K11=>?_
 refine ent_cut (⟨[(0,aInt q),(1,aInt (k-j)),(2,aInt m),(8,aInt (q^j.toNat)),(32,aBool (decide ((0<(k-j))/\(1<q))))],[]⟩) ?_ ?_
 ·refine A_D ?_
  refine emm rfl ?_
  refine A_A rfl (ok_gtr rfl rfl) ?_
  refine emm rfl ?_
  refine ent_guardXDt rfl rfl rfl rfl (fun hg29=>?_) (fun hg29=>?_)
  ·refine emm rfl ?_
   refine A_M rfl rfl rfl rfl (decide_eq_true hg29) ?_
   refine A_A rfl (ok_gtr rfl rfl) ?_
   refine A_A rfl (A_l rfl (decide_eq_true hg29) rfl) ?_
   refine A_O ?_
   exact A_I ⟨rfl,rfl,rfl,rfl,A_Z (dq_Q ((and_iff_right hg29).trans Iff.rfl)),trivial⟩ rfl
  refine A_G rfl rfl rfl rfl (decide_eq_false hg29) ?_
  refine A_A rfl (A_r rfl (decide_eq_false hg29) rfl) ?_
  refine A_O ?_
  exact A_I ⟨rfl,rfl,rfl,rfl,A_Z (dq_F rfl (fun h=>hg29 h.1)),trivial⟩ rfl
 refine A_s K11 ?_
 refine A_E rfl (fun h32=>?_) (fun h32=>?_)
 ·have hs:=pow_succ_toNat q j h0
  have hp:=pow_pos_of q hq j.toNat
  have hpk:=pow_mono_of q hq (show (j+1).toNat<=k.toNat by omega)
  have hmm:0<=q^j.toNat*q/\q^j.toNat*q<=1000000*65536:=⟨Int.mul_nonneg (by omega) (by omega),Int.mul_le_mul (by omega) hq2 (by omega) (by omega)⟩
  refine esp K10 ?_
  refine A_C fun _ K12=>?_
  refine A_K ?_
  refine A_C fun _ K13=>?_
  refine esr rfl fun _ K14=>?_
  refine A_A rfl (ok_quo rfl rfl (by omega) (by omega) (by omega)) ?_
  refine A_A rfl (ok_gtr rfl rfl) ?_
  refine enk K14 ?_
  refine A_E rfl (fun h39=>?_) (fun h39=>?_)
  ·have hlt:m<q^j.toNat*q:=(Int.ediv_lt_iff_lt_mul (by omega)).1 h39
   refine esk rfl ?_
   refine A_R ?_
   exact retR2 (.inr rfl) results85 (A_H (A_T rfl (A_a (by unfold expF;rw [if_neg (by omega)])))) (A_H (A_T rfl (A_a (by unfold expE;rw [if_neg (by omega)]))))
  have hle:q^j.toNat*q<=m:=(Int.le_ediv_iff_mul_le (by omega)).1 (by omega)
  refine esp K13 ?_
  refine A_D ?_
  refine emm rfl ?_
  refine A_A rfl (ok_mul rfl rfl (by omega) (by omega)) ?_
  refine emm rfl ?_
  refine enk K12 ?_
  refine A_D ?_
  refine emm rfl ?_
  refine A_A rfl (ok_sub rfl rfl (by omega) (by omega)) ?_
  refine emm rfl ?_
  refine A_O ?_
  refine A_X (s:=(j)) (j+1) ⟨(by omega),(by omega),(by rw [hs];exact hle)⟩ (by omega) (A_I ⟨rfl,A_W (A_i (show (k-j)-1=k-(j+1) by omega)),rfl,A_W (A_i (show (q^j.toNat)*q=q^(j+1).toNat by rw [hs])),trivial⟩ rfl)
 refine A_e ?_
 refine A_s K9 ?_
 refine esk rfl ?_
 refine A_R ?_
 exact retR2 (.inr rfl) results85 (A_H (A_T rfl (A_a (by unfold expF;rw [show k=j by omega,if_pos h2])))) (A_H (A_T rfl (A_a (by unfold expE;rw [show k=j by omega,if_pos h2]))))

theorem fCheck_ok (f:Fld) (hF:FOk f):Ctr Tryz.prog 116 [aFld f] (aInt 0):=by
 have hb:=hF.1.bd
 have hE:=hF.exp_good
 have hq:ordS f.P f.M=f.q:=rfl
 refine A_p Tryz.call116 func116 rfl rfl ?_
 intro w O
 refine A_Y 0 2 rfl rfl (fun hlen0_2=>?_)
 refine esr rfl fun _ K1=>?_
 refine A_h rfl rfl (AllOne.mem ⟨(A_F _),(A_F _),A_c,trivial⟩) (fun b1_1=>?_)
 refine emm rfl ?_
 refine enk K1 ?_
 refine A_C fun _ K2=>?_
 refine A_C fun _ K3=>?_
 refine A_t 13 mixed (by kernel_rfl) (by kernel_rfl) (by kernel_rfl) ?_
 refine dw_o rfl (A_P (k:=0) ti24 rfl rfl rfl) ?_
 refine dw_o rfl (A_S (shape_ok f) rfl) ?_
 refine dw_o rfl (ok_not rfl) ?_
 refine dw_o rfl (A_J rfl) ?_
 refine A_b rfl rfl rfl rfl (by rw [show (decide (Shape f))=true from (decide_eq_true hF.1)];rfl) ?_
 refine dw_o rfl (A_P (k:=0) ti24 rfl rfl rfl) ?_
 refine A_b rfl rfl rfl rfl (by rw [show (decide (Shape f))=true from (decide_eq_true hF.1)];rfl) ?_
 refine dw_o rfl (A_B runUnderlying24 rfl sizeOf3 (by decide) rfl) ?_
 refine A_b rfl rfl rfl rfl (by rw [show (decide (Shape f))=true from (decide_eq_true hF.1)];rfl) ?_
 refine dw_o rfl (A_L (k:=0) isAgg3 rfl rfl rfl) ?_
 refine A_b rfl rfl rfl rfl (by rw [show (decide (Shape f))=true from (decide_eq_true hF.1)];rfl) ?_
 refine dw_o rfl (A_B runUnderlying24 rfl sizeOf3 (by decide) rfl) ?_
 refine A_b rfl rfl rfl rfl (by rw [show (decide (Shape f))=true from (decide_eq_true hF.1)];rfl) ?_
 refine dw_o rfl (A_L (k:=0) isAgg3 rfl rfl rfl) ?_
 refine A_b rfl rfl rfl rfl (by rw [show (decide (Shape f))=true from (decide_eq_true hF.1)];rfl) ?_
 refine dw_o rfl (A_S (order_ok f.P f.M) rfl) ?_
 refine A_b rfl rfl rfl rfl (by rw [show (decide (Shape f))=true from (decide_eq_true hF.1)];rfl) ?_
 refine dw_o rfl (ok_callA (CtrF.ctr (CtrF.sl (generator_ok f hF.1 hF.2))) ⟨arg_a rfl (cv_id sub_refl),arg_a rfl (A_a rfl),trivial⟩) ?_
 refine A_b rfl rfl rfl rfl (by rw [show (decide (Shape f))=true from (decide_eq_true hF.1)];rfl) ?_
 refine dw_o rfl (ok_eqlNil_false underlying22 rfl (by intro h;have h2:=hE.2.2;rw [h] at h2;simp at h2;omega)) ?_
 refine dw_o rfl (A_r rfl (by rw [show (decide (Shape f))=true from (decide_eq_true hF.1)];rfl) rfl) ?_
 refine dw_nil ?_
 refine enk K3 ?_
 refine ent_condF rfl ?_
 refine esp K2 ?_
 refine esk rfl ?_
 refine A_R ?_
 exact retR1 (.inr rfl) results116 (A_H (A_T rfl (A_a rfl)))

theorem fCheck_no (f:Fld) (hF:¬FOk f):Ctr Tryz.prog 116 [aFld f] (aInt 1):=by
 refine A_p Tryz.call116 func116 rfl rfl ?_
 intro w O
 refine A_Y 0 2 rfl rfl (fun hlen0_2=>?_)
 refine esr rfl fun _ K1=>?_
 refine A_h rfl rfl (AllOne.mem ⟨(A_F _),(A_F _),A_c,trivial⟩) (fun b1_1=>?_)
 refine emm rfl ?_
 refine enk K1 ?_
 refine A_C fun _ K2=>?_
 refine A_C fun _ K3=>?_
 refine A_t 13 mixed (by kernel_rfl) (by kernel_rfl) (by kernel_rfl) ?_
 refine dw_o rfl (A_P (k:=0) ti24 rfl rfl rfl) ?_
 refine dw_o rfl (A_S (shape_ok f) rfl) ?_
 refine dw_o rfl (ok_notD rfl) ?_
 refine dw_o rfl (A_J rfl) ?_
 refine dw_guardDf rfl rfl rfl rfl (fun hg6=>?_) (fun hg6=>?_)
 ·refine dw_o rfl (A_P (k:=0) ti24 rfl rfl rfl) ?_
  refine A_b rfl rfl rfl rfl (decide_eq_false hg6) ?_
  refine dw_o rfl (A_B runUnderlying24 rfl sizeOf3 (by decide) rfl) ?_
  refine A_b rfl rfl rfl rfl (decide_eq_false hg6) ?_
  refine dw_o rfl (A_L (k:=0) isAgg3 rfl rfl rfl) ?_
  refine A_b rfl rfl rfl rfl (decide_eq_false hg6) ?_
  refine dw_o rfl (A_B runUnderlying24 rfl sizeOf3 (by decide) rfl) ?_
  refine A_b rfl rfl rfl rfl (decide_eq_false hg6) ?_
  refine dw_o rfl (A_L (k:=0) isAgg3 rfl rfl rfl) ?_
  refine A_b rfl rfl rfl rfl (decide_eq_false hg6) ?_
  refine dw_o rfl (A_S (order_ok f.P f.M) rfl) ?_
  refine A_b rfl rfl rfl rfl (decide_eq_false hg6) ?_
  refine dw_o rfl (ok_callA (generator_no f (Classical.not_not.1 hg6) (fun h=>hF ⟨Classical.not_not.1 hg6,h⟩)) ⟨arg_a rfl (cv_id sub_refl),arg_a rfl (A_a rfl),trivial⟩) ?_
  refine A_b rfl rfl rfl rfl (decide_eq_false hg6) ?_
  refine dw_o rfl (ok_eqlNil_true underlying22 rfl) ?_
  refine dw_o rfl (A_r rfl (decide_eq_false hg6) rfl) ?_
  refine dw_nil ?_
  refine enk K3 ?_
  refine ent_condT rfl ?_
  refine esk rfl ?_
  refine A_R ?_
  exact retR1 (.inr rfl) results116 (A_H (A_T rfl (A_a rfl)))
 refine A_U rfl rfl rfl rfl (decide_eq_true hg6) ?_
 refine A_U rfl rfl rfl rfl (decide_eq_true hg6) ?_
 refine A_U rfl rfl rfl rfl (decide_eq_true hg6) ?_
 refine A_U rfl rfl rfl rfl (decide_eq_true hg6) ?_
 refine A_U rfl rfl rfl rfl (decide_eq_true hg6) ?_
 refine A_U rfl rfl rfl rfl (decide_eq_true hg6) ?_
 refine A_U rfl rfl rfl rfl (decide_eq_true hg6) ?_
 refine dw_o rfl (A_l rfl (decide_eq_true hg6) rfl) ?_
 refine dw_nil ?_
 refine enk K3 ?_
 refine ent_condT rfl ?_
 refine esk rfl ?_
 refine A_R ?_
 exact retR1 (.inr rfl) results116 (A_H (A_T rfl (A_a rfl)))

theorem length_ok (n:Int)  : Ctr Tryz.prog 117 [aInt n] (aInt (if n<1\/64<n then 4 else 0)):=by
 refine A_p Tryz.call117 func117 rfl rfl ?_
 intro w O
 refine esk rfl ?_
 refine A_C fun _ K2=>?_
 refine A_C fun _ K3=>?_
 refine ent_cut (⟨[(8,aBool (decide ((n<1)\/(64<n))))],[]⟩) ?_ ?_
 ·refine A_D ?_
  refine emm rfl ?_
  refine A_A rfl (A_o rfl rfl) ?_
  refine emm rfl ?_
  refine A_v rfl rfl rfl rfl (fun hg5=>?_) (fun hg5=>?_)
  ·refine emm rfl ?_
   refine A_M rfl rfl rfl rfl (decide_eq_false hg5) ?_
   refine A_A rfl (ok_gtr rfl rfl) ?_
   refine A_A rfl (A_r rfl (decide_eq_false hg5) rfl) ?_
   refine A_O ?_
   exact A_I ⟨A_Z (dq_Q ((or_iff_right hg5).trans Iff.rfl)),trivial⟩ rfl
  refine A_G rfl rfl rfl rfl (decide_eq_true hg5) ?_
  refine A_A rfl (A_l rfl (decide_eq_true hg5) rfl) ?_
  refine A_O ?_
  exact A_I ⟨A_Z (dq_T rfl (Or.inl hg5)),trivial⟩ rfl
 refine A_s K3 ?_
 refine A_E rfl (fun h8=>?_) (fun h8=>?_)
 ·refine esk rfl ?_
  refine A_R ?_
  exact retR1 (.inr rfl) results117 (A_H (A_T rfl (A_a (by rw [if_pos h8]))))
 refine esp K2 ?_
 refine esk rfl ?_
 refine A_R ?_
 exact retR1 (.inr rfl) results117 (A_H (A_T rfl (A_a (by rw [if_neg h8]))))

theorem gen_ok (c:Cod)  : Ctr Tryz.prog 93 [aCod c] (aMat c.m):=by
 refine A_p Tryz.call93 func93 rfl rfl ?_
 intro w O
 refine A_Y 0 2 rfl rfl (fun hlen0_2=>?_)
 refine A_Y 0 4 rfl rfl (fun hlen0_4=>?_)
 refine esr rfl fun _ K1=>?_
 refine A_h rfl rfl (AllOne.mem ⟨(A_F _),(A_F _),A_c,(A_F _),A_c,trivial⟩) (fun b1_1=>?_)
 refine ent_alloc (z:=.agg #[.int .i64 0,.slice none 0 0]) [aInt 0,aEx (.slice none 0 0)] rfl zv107 rfl zc107 (fun b2_2=>?_)
 refine enk K1 ?_
 refine esr rfl fun _ K2=>?_
 refine A_A rfl (A_B runUnderlying27 rfl sizeOf3 (by decide) rfl) ?_
 refine A_A rfl (A_L (k:=1) isAgg3 rfl rfl rfl) ?_
 refine A_A rfl (A_B runUnderlying27 rfl sizeOf25 (by decide) rfl) ?_
 refine A_A rfl (A_L (k:=1) isAgg25 rfl rfl rfl) ?_
 refine A_A rfl (ok_build st107 (As:=[aInt 0,aEx (.slice none 0 0)]) z107 (⟨0,1,rfl,.inl ⟨rfl,_,rfl,(A_F _),rfl,⟨1,1,rfl,.inl ⟨rfl,_,rfl,A_c,rfl,rfl⟩⟩⟩⟩)) ?_
 refine ent_storeBS (k:=0) sizeOf107 rfl rfl rfl (AllOne.mem ⟨(A_F _),A_c,trivial⟩) rfl rfl ?_
 show Ent _ ⟨_,[_,_]⟩ _
 refine enk K2 ?_
 refine A_R ?_
 exact retR1 (.inr rfl) results93 (resr_cell (k:=0) ti107 rfl rfl rfl (cv_agg ⟨A_a rfl,cv_sl sub_x rfl,trivial⟩))

theorem spopen_ok (f:Fld) (m:Mat) (h:mErr f m=0) (hr:(canM f m).rows=m.rows):Ctr Tryz.prog 132 [aFld f,aMat m] (aTup [aAgg [aGF f,aInt m.cols,aSl 1 false aInts m.rows,aSl 1 false aInt (canP f m)],aInt 0]):=by
 have hF:FOk f:=by unfold mErr at h;by_cases hF:FOk f;exact hF;rw [if_neg hF] at h;cases h
 refine A_p Tryz.call132 func132 rfl rfl ?_
 intro w O
 refine A_Y 0 2 rfl rfl (fun hlen0_2=>?_)
 refine A_Y 1 1 rfl rfl (fun hlen1_1=>?_)
 refine esr rfl fun _ K1=>?_
 refine A_h rfl rfl (AllOne.mem ⟨(A_F _),(A_F _),A_c,trivial⟩) (fun b2_1=>?_)
 refine A_h rfl rfl (AllOne.mem ⟨(A_F _),A_c,trivial⟩) (fun b3_2=>?_)
 refine ent_alloc (z:=.agg #[.pointer none,.int .i64 0,.slice none 0 0,.slice none 0 0]) [aEx (.pointer none),aInt 0,aEx (.slice none 0 0),aEx (.slice none 0 0)] rfl zv148 rfl zc148 (fun b4_3=>?_)
 refine emm rfl ?_
 refine enk K1 ?_
 refine esr rfl fun _ K2=>?_
 refine A_A rfl (A_P (k:=2) ti24 rfl rfl rfl) ?_
 refine A_A rfl (A_P (k:=1) ti107 rfl rfl rfl) ?_
 refine A_A rfl (A_S (mCanonical_ok f m) rfl) ?_
 refine emm rfl ?_
 refine A_A rfl (A_Q rfl rfl) ?_
 refine A_A rfl (A_Q rfl rfl) ?_
 refine A_A rfl (A_Q rfl rfl) ?_
 refine ent_alloc (z:=.agg #[.int .i64 0,.slice none 0 0]) [aInt 0,aEx (.slice none 0 0)] rfl zv107 rfl zc107 (fun b6_4=>?_)
 refine ent_storeBS (k:=0) sizeOf107 rfl rfl rfl (AllOne.mem ⟨(A_F _),A_c,trivial⟩) rfl rfl ?_
 show Ent _ ⟨_,[_,_,_,_]⟩ _
 refine emm rfl ?_
 refine enk K2 ?_
 refine A_C fun _ K3=>?_
 refine esr rfl fun _ K4=>?_
 refine A_A rfl (A_y rfl rfl) ?_
 refine enk K4 ?_
 refine A_E rfl (fun h18=>?_) (fun h18=>?_)
 ·exact absurd h h18
 refine esp K3 ?_
 refine A_C fun _ K5=>?_
 refine esr rfl fun _ K6=>?_
 refine A_A rfl (A_B runUnderlying107 rfl sizeOf25 (by decide) rfl) ?_
 refine A_A rfl (A_L (k:=0) isAgg25 rfl rfl rfl) ?_
 refine A_A rfl (A_B runUnderlying107 rfl sizeOf25 (by decide) rfl) ?_
 refine A_A rfl (A_L (k:=2) isAgg25 rfl rfl rfl) ?_
 refine A_A rfl (ok_callA (EqualFunc_ok ((canM f m).rows) m.rows) ⟨arg_a rfl (cv_id sub_refl),arg_a rfl (cv_id sub_refl),arg_a rfl (cv_func),trivial⟩) ?_
 refine A_A rfl (ok_notD rfl) ?_
 refine enk K6 ?_
 refine A_E rfl (fun h26=>?_) (fun h26=>?_)
 ·exact absurd hr h26
 refine esp K5 ?_
 refine esr rfl fun _ K7=>?_
 refine A_A rfl (A_P (k:=3) ti24 rfl rfl rfl) ?_
 refine A_A rfl (A_S (CtrF.ctr (New_ok f hF)) rfl) ?_
 refine emm rfl ?_
 refine A_A rfl (A_Q rfl rfl) ?_
 refine A_A rfl (A_Q rfl rfl) ?_
 refine emm rfl ?_
 refine enk K7 ?_
 refine esr rfl fun _ K8=>?_
 refine A_A rfl (A_P (k:=2) ti107 rfl rfl rfl) ?_
 refine emm rfl ?_
 refine A_A rfl (ok_build st148 (As:=[aEx (.pointer none),aInt 0,aEx (.slice none 0 0),aEx (.slice none 0 0)]) z148 (⟨0,1,rfl,.inl ⟨rfl,_,rfl,one_at,rfl,⟨1,2,rfl,.inr ⟨_,rfl,rfl,rfl,⟨3,1,rfl,.inl ⟨rfl,_,rfl,A_c,rfl,rfl⟩⟩⟩⟩⟩⟩)) ?_
 refine emm rfl ?_
 refine ent_storeBS (k:=1) sizeOf148 rfl rfl rfl (AllOne.mem ⟨one_at,(A_F _),A_c,A_c,trivial⟩) rfl rfl ?_
 show Ent _ ⟨_,[_,_,_,_]⟩ _
 refine emm rfl ?_
 refine enk K8 ?_
 refine A_R ?_
 exact retR2 (.inr rfl) results132 (resr_cell (k:=1) ti148 rfl rfl rfl (cv_agg ⟨cv_id sub_x,A_a rfl,cv_sl sub_x rfl,cv_sl sub_x rfl,trivial⟩)) (A_H (A_T rfl (A_a rfl)))

theorem spopen_no (f:Fld) (m:Mat) (h:spcE f m≠0):Ctr Tryz.prog 132 [aFld f,aMat m] (aTup [aAgg [aEx (.pointer none),aInt 0,aEx (.slice none 0 0),aEx (.slice none 0 0)],aInt (spcE f m)]):=by
 unfold spcE at h
 refine A_p Tryz.call132 func132 rfl rfl ?_
 intro w O
 refine A_Y 0 2 rfl rfl (fun hlen0_2=>?_)
 refine A_Y 1 1 rfl rfl (fun hlen1_1=>?_)
 refine esr rfl fun _ K1=>?_
 refine A_h rfl rfl (AllOne.mem ⟨(A_F _),(A_F _),A_c,trivial⟩) (fun b2_1=>?_)
 refine A_h rfl rfl (AllOne.mem ⟨(A_F _),A_c,trivial⟩) (fun b3_2=>?_)
 refine ent_alloc (z:=.agg #[.pointer none,.int .i64 0,.slice none 0 0,.slice none 0 0]) [aEx (.pointer none),aInt 0,aEx (.slice none 0 0),aEx (.slice none 0 0)] rfl zv148 rfl zc148 (fun b4_3=>?_)
 refine emm rfl ?_
 refine enk K1 ?_
 refine esr rfl fun _ K2=>?_
 refine A_A rfl (A_P (k:=2) ti24 rfl rfl rfl) ?_
 refine A_A rfl (A_P (k:=1) ti107 rfl rfl rfl) ?_
 refine A_A rfl (A_S (mCanonical_ok f m) rfl) ?_
 refine emm rfl ?_
 refine A_A rfl (A_Q rfl rfl) ?_
 refine A_A rfl (A_Q rfl rfl) ?_
 refine A_A rfl (A_Q rfl rfl) ?_
 refine ent_alloc (z:=.agg #[.int .i64 0,.slice none 0 0]) [aInt 0,aEx (.slice none 0 0)] rfl zv107 rfl zc107 (fun b6_4=>?_)
 refine ent_storeBS (k:=0) sizeOf107 rfl rfl rfl (AllOne.mem ⟨(A_F _),A_c,trivial⟩) rfl rfl ?_
 show Ent _ ⟨_,[_,_,_,_]⟩ _
 refine emm rfl ?_
 refine enk K2 ?_
 refine A_C fun _ K3=>?_
 refine esr rfl fun _ K4=>?_
 refine A_A rfl (A_y rfl rfl) ?_
 refine enk K4 ?_
 refine A_E rfl (fun h18=>?_) (fun h18=>?_)
 ·refine esr rfl fun _ K5=>?_
  refine A_A rfl (ok_build st148 (As:=[aEx (.pointer none),aInt 0,aEx (.slice none 0 0),aEx (.slice none 0 0)]) z148 (rfl)) ?_
  refine emm rfl ?_
  refine ent_storeBS (k:=1) sizeOf148 rfl rfl rfl (AllOne.mem ⟨(one_ex rfl),(A_F _),(one_ex rfl),(one_ex rfl),trivial⟩) rfl rfl ?_
  show Ent _ ⟨_,[_,_,_,_]⟩ _
  refine emm rfl ?_
  refine enk K5 ?_
  refine A_R ?_
  exact retR2 (.inr rfl) results132 (resr_cell (k:=1) ti148 rfl rfl rfl (cv_agg ⟨cv_id sub_x,A_a rfl,cv_id sub_x,cv_id sub_x,trivial⟩)) (A_H (A_T rfl (A_a (by unfold spcE;rw [if_neg h18]))))
 have h18n:=Classical.not_not.1 h18
 refine esp K3 ?_
 refine A_C fun _ K6=>?_
 refine esr rfl fun _ K7=>?_
 refine A_A rfl (A_B runUnderlying107 rfl sizeOf25 (by decide) rfl) ?_
 refine A_A rfl (A_L (k:=0) isAgg25 rfl rfl rfl) ?_
 refine A_A rfl (A_B runUnderlying107 rfl sizeOf25 (by decide) rfl) ?_
 refine A_A rfl (A_L (k:=2) isAgg25 rfl rfl rfl) ?_
 refine A_A rfl (ok_callA (EqualFunc_ok ((canM f m).rows) m.rows) ⟨arg_a rfl (cv_id sub_refl),arg_a rfl (cv_id sub_refl),arg_a rfl (cv_func),trivial⟩) ?_
 refine A_A rfl (ok_notD rfl) ?_
 refine enk K7 ?_
 refine A_E rfl (fun h26=>?_) (fun h26=>?_)
 ·refine esr rfl fun _ K8=>?_
  refine A_A rfl (ok_build st148 (As:=[aEx (.pointer none),aInt 0,aEx (.slice none 0 0),aEx (.slice none 0 0)]) z148 (rfl)) ?_
  refine ent_storeBS (k:=1) sizeOf148 rfl rfl rfl (AllOne.mem ⟨(one_ex rfl),(A_F _),(one_ex rfl),(one_ex rfl),trivial⟩) rfl rfl ?_
  show Ent _ ⟨_,[_,_,_,_]⟩ _
  refine emm rfl ?_
  refine enk K8 ?_
  refine A_R ?_
  exact retR2 (.inr rfl) results132 (resr_cell (k:=1) ti148 rfl rfl rfl (cv_agg ⟨cv_id sub_x,A_a rfl,cv_id sub_x,cv_id sub_x,trivial⟩)) (A_H (A_T rfl (A_a (by unfold spcE;rw [if_pos h18n,if_neg h26]))))
 rw [if_pos h18n,if_pos (Classical.not_not.1 h26)] at h;exact absurd rfl h

theorem spCheck_ok (f:Fld) (m:Mat)  : Ctr Tryz.prog 118 [aFld f,aMat m] (aInt (spcE f m)):=by
 refine A_p Tryz.call118 func118 rfl rfl ?_
 intro w O
 refine A_Y 0 2 rfl rfl (fun hlen0_2=>?_)
 refine A_Y 1 1 rfl rfl (fun hlen1_1=>?_)
 refine esr rfl fun _ K1=>?_
 refine A_h rfl rfl (AllOne.mem ⟨(A_F _),(A_F _),A_c,trivial⟩) (fun b2_1=>?_)
 refine A_h rfl rfl (AllOne.mem ⟨(A_F _),A_c,trivial⟩) (fun b3_2=>?_)
 refine emm rfl ?_
 refine enk K1 ?_
 refine esr rfl fun _ K2=>?_
 refine A_A rfl (A_P (k:=1) ti24 rfl rfl rfl) ?_
 refine A_A rfl (A_P (k:=0) ti107 rfl rfl rfl) ?_
 rcases Classical.em (spcE f m=0) with hsp | hsp
 ·refine A_A rfl (A_S (spopen_ok f m (spcE_m hsp) (spcE_r hsp)) rfl) ?_
  refine emm rfl ?_
  refine A_A rfl (A_Q rfl rfl) ?_
  refine A_A rfl (A_Q rfl rfl) ?_
  refine ent_alloc (z:=.agg #[.pointer none,.int .i64 0,.slice none 0 0,.slice none 0 0]) [aEx (.pointer none),aInt 0,aEx (.slice none 0 0),aEx (.slice none 0 0)] rfl zv148 rfl zc148 (fun b5_3=>?_)
  refine ent_storeBS (k:=0) sizeOf148 rfl rfl rfl (AllOne.mem ⟨one_at,(A_F _),A_c,A_c,trivial⟩) rfl rfl ?_
  show Ent _ ⟨_,[_,_,_]⟩ _
  refine emm rfl ?_
  refine enk K2 ?_
  refine esk rfl ?_
  refine A_R ?_
  exact retR1 (.inr rfl) results118 (A_H (A_T rfl (A_a (by exact hsp.symm))))
 refine A_A rfl (A_S (spopen_no f m hsp) rfl) ?_
 refine emm rfl ?_
 refine A_A rfl (A_Q rfl rfl) ?_
 refine A_A rfl (A_Q rfl rfl) ?_
 refine ent_alloc (z:=.agg #[.pointer none,.int .i64 0,.slice none 0 0,.slice none 0 0]) [aEx (.pointer none),aInt 0,aEx (.slice none 0 0),aEx (.slice none 0 0)] rfl zv148 rfl zc148 (fun b5_4=>?_)
 refine ent_storeBS (k:=0) sizeOf148 rfl rfl rfl (AllOne.mem ⟨(one_ex rfl),(A_F _),(one_ex rfl),(one_ex rfl),trivial⟩) rfl rfl ?_
 show Ent _ ⟨_,[_,_,_]⟩ _
 refine emm rfl ?_
 refine enk K2 ?_
 refine esk rfl ?_
 refine A_R ?_
 exact retR1 (.inr rfl) results118 (A_H (A_T rfl (A_a rfl)))

theorem cCheck_ok (c:Cod)  : Ctr Tryz.prog 102 [aCod c] (aInt (codE c)):=by
 refine A_p Tryz.call102 func102 rfl rfl ?_
 intro w O
 refine A_Y 0 2 rfl rfl (fun hlen0_2=>?_)
 refine A_Y 0 4 rfl rfl (fun hlen0_4=>?_)
 refine esr rfl fun _ K1=>?_
 refine A_h rfl rfl (AllOne.mem ⟨(A_F _),(A_F _),A_c,(A_F _),A_c,trivial⟩) (fun b1_1=>?_)
 refine emm rfl ?_
 refine enk K1 ?_
 refine A_C fun _ K2=>?_
 refine esr rfl fun _ K3=>?_
 refine A_A rfl (A_B runUnderlying27 rfl sizeOf24 (by decide) rfl) ?_
 refine A_A rfl (A_P (k:=0) ti24 rfl rfl rfl) ?_
 rcases Classical.em (FOk c.F) with hF | hF
 ·refine A_A rfl (A_S (fCheck_ok c.F hF) rfl) ?_
  refine A_A rfl (A_y rfl rfl) ?_
  refine enk K3 ?_
  refine ent_condFP rfl (by decide) ?_
  refine esp K2 ?_
  refine A_C fun _ K4=>?_
  refine esr rfl fun _ K5=>?_
  refine A_A rfl (A_B runUnderlying27 rfl sizeOf3 (by decide) rfl) ?_
  refine A_A rfl (A_L (k:=0) isAgg3 rfl rfl rfl) ?_
  refine A_A rfl (A_S (length_ok c.N) rfl) ?_
  refine emm rfl ?_
  refine enk K5 ?_
  refine esr rfl fun _ K6=>?_
  refine A_A rfl (A_y rfl rfl) ?_
  refine enk K6 ?_
  refine A_E rfl (fun h12=>?_) (fun h12=>?_)
  ·refine esk rfl ?_
   refine A_R ?_
   exact retR1 (.inr rfl) results102 (A_H (A_T rfl (A_a (by exact codE_len hF h12))))
  refine esp K4 ?_
  refine A_C fun _ K8=>?_
  refine A_t 6 mixed (by kernel_rfl) (by kernel_rfl) (by kernel_rfl) ?_
  refine dw_o rfl (A_B runUnderlying27 rfl sizeOf24 (by decide) rfl) ?_
  refine dw_o rfl (A_P (k:=0) ti24 rfl rfl rfl) ?_
  refine dw_o rfl (A_P (k:=0) ti27 rfl rfl rfl) ?_
  refine dw_o rfl (A_S (gen_ok c) rfl) ?_
  refine dw_o rfl (A_S (spCheck_ok c.F c.m) rfl) ?_
  refine dw_o rfl (ok_assign rfl) ?_
  refine dw_nil ?_
  refine enk K8 ?_
  refine A_R ?_
  exact retR1 (.inr rfl) results102 (A_H (A_T rfl (A_a (by exact codE_spc hF h12))))
 refine A_A rfl (A_S (fCheck_no c.F hF) rfl) ?_
 refine A_A rfl (A_y rfl rfl) ?_
 refine enk K3 ?_
 refine ent_condTP rfl (by decide) ?_
 refine esk rfl ?_
 refine A_R ?_
 exact retR1 (.inr rfl) results102 (A_H (A_T rfl (A_a (by exact codE_no hF))))
end Go.Proofs.YtcilbmggiahciaaGreat

