/-
  Facts for the law CosetNumbers.
-/
import Derived.Test.YtcilbmggiahciaaGreatZ56
set_option linter.unnecessarySimpa false
open Go Go.Cw
namespace Go.Proofs.YtcilbmggiahciaaGreat
open Tryz
set_option maxRecDepth 100000
set_option linter.unusedVariables false
set_option linter.unusedSimpArgs false
theorem rExp_ok (q k m:Int) (hq:2<=q) (hq2:q<=65536) (hk:0<=k) (hk2:k<=9223372036854775806) (hm:1<=m) (hm2:m<=1000000):Ctr Tryz.prog 70 [aInt q,aInt k,aInt m] (aTup [aInt (expF q k m),aInt (expE q k m)]):=by
 refine A_p Tryz.call70 func70 rfl rfl ?_
 intro w O
 refine esk rfl ?_
 refine A_C fun _ K2=>?_
 refine A_C fun _ K3=>?_
 refine ent_cut (⟨[(0,aInt q),(1,aInt k),(2,aInt m),(19,aBool (decide (((q<0)\/(k<0))\/(m<0))))],[]⟩) ?_ ?_
 ·refine A_D ?_
  refine emm rfl ?_
  refine A_A rfl (A_o rfl rfl) ?_
  refine emm rfl ?_
  refine A_v rfl rfl rfl rfl (fun hg12=>?_) (fun hg12=>?_)
  ·refine emm rfl ?_
   refine A_M rfl rfl rfl rfl (decide_eq_false hg12) ?_
   refine A_A rfl (A_o rfl rfl) ?_
   refine A_A rfl (A_r rfl (decide_eq_false hg12) rfl) ?_
   refine emm rfl ?_
   refine A_v rfl rfl rfl rfl (fun hg16=>?_) (fun hg16=>?_)
   ·refine emm rfl ?_
    refine A_M rfl rfl rfl rfl (decide_eq_false hg16) ?_
    refine A_A rfl (A_o rfl rfl) ?_
    refine A_A rfl (A_r rfl (decide_eq_false hg16) rfl) ?_
    refine A_O ?_
    exact A_I ⟨rfl,rfl,rfl,A_Z (dq_Q ((or_iff_right (fun h=>h.elim hg12 hg16)).trans Iff.rfl)),trivial⟩ rfl
   refine A_G rfl rfl rfl rfl (decide_eq_true hg16) ?_
   refine A_A rfl (A_l rfl (decide_eq_true hg16) rfl) ?_
   refine A_O ?_
   exact A_I ⟨rfl,rfl,rfl,A_Z (dq_T rfl (Or.inl (Or.inr hg16))),trivial⟩ rfl
  refine A_G rfl rfl rfl rfl (decide_eq_true hg12) ?_
  refine A_A rfl (A_l rfl (decide_eq_true hg12) rfl) ?_
  refine emm rfl ?_
  refine A_G rfl rfl rfl rfl rfl ?_
  refine A_G rfl rfl rfl rfl rfl ?_
  refine A_A rfl (A_l rfl rfl rfl) ?_
  refine A_O ?_
  exact A_I ⟨rfl,rfl,rfl,A_Z (dq_T rfl (Or.inl (Or.inl hg12))),trivial⟩ rfl
 refine A_s K3 ?_
 refine A_E rfl (fun h19=>?_) (fun h19=>?_)
 ·omega
 refine esp K2 ?_
 refine A_C fun _ K4=>?_
 refine A_C fun _ K5=>?_
 refine ent_cut (⟨[(0,aInt q),(1,aInt k),(2,aInt m),(25,aBool (decide ((q=0)/\(0<k))))],[]⟩) ?_ ?_
 ·refine A_D ?_
  refine emm rfl ?_
  refine A_A rfl (ok_eql rfl rfl) ?_
  refine emm rfl ?_
  refine ent_guardXDt rfl rfl rfl rfl (fun hg22=>?_) (fun hg22=>?_)
  ·refine emm rfl ?_
   refine A_M rfl rfl rfl rfl (decide_eq_true hg22) ?_
   refine A_A rfl (ok_gtr rfl rfl) ?_
   refine A_A rfl (A_l rfl (decide_eq_true hg22) rfl) ?_
   refine A_O ?_
   exact A_I ⟨rfl,rfl,rfl,A_Z (dq_Q ((and_iff_right hg22).trans Iff.rfl)),trivial⟩ rfl
  refine A_G rfl rfl rfl rfl (decide_eq_false hg22) ?_
  refine A_A rfl (A_r rfl (decide_eq_false hg22) rfl) ?_
  refine A_O ?_
  exact A_I ⟨rfl,rfl,rfl,A_Z (dq_F rfl (fun h=>hg22 h.1)),trivial⟩ rfl
 refine A_s K5 ?_
 refine A_E rfl (fun h25=>?_) (fun h25=>?_)
 ·omega
 refine esp K4 ?_
 refine esk rfl ?_
 refine A_C fun _ K7=>?_
 refine esk rfl ?_
 refine A_K ?_
 refine A_g (fun (j:Int)=>(⟨[(0,aInt q),(1,aInt k),(2,aInt m),(8,aInt (q^j.toNat)),(9,aInt j)],[]⟩:St)) (fun (j:Int)=>(0<=j)/\(j<=k)/\(q^j.toNat<=m)) (fun (j:Int)=>(k-j).toNat) 0 ⟨(by omega),‹_›,(by simpa using hm)⟩ (A_I ⟨rfl,rfl,rfl,A_W (A_i (show 1=q^(0:Int).toNat by simp)),A_W (A_i (show 0=(0:Int) by rfl)),trivial⟩ rfl) ?_
 rintro j ⟨h0,h1,h2⟩
 show Ent _ ⟨_,[]⟩ _
 refine A_C fun _ K9=>?_
 refine A_C fun _ K10=>?_
 refine ent_cut (⟨[(0,aInt q),(1,aInt k),(2,aInt m),(8,aInt (q^j.toNat)),(9,aInt j),(32,aBool (decide ((j<k)/\(1<q))))],[]⟩) ?_ ?_
 ·refine A_D ?_
  refine emm rfl ?_
  refine A_A rfl (A_o rfl rfl) ?_
  refine emm rfl ?_
  refine ent_guardXDt rfl rfl rfl rfl (fun hg29=>?_) (fun hg29=>?_)
  ·refine emm rfl ?_
   refine A_M rfl rfl rfl rfl (decide_eq_true hg29) ?_
   refine A_A rfl (ok_gtr rfl rfl) ?_
   refine A_A rfl (A_l rfl (decide_eq_true hg29) rfl) ?_
   refine A_O ?_
   exact A_I ⟨rfl,rfl,rfl,rfl,rfl,A_Z (dq_Q ((and_iff_right hg29).trans Iff.rfl)),trivial⟩ rfl
  refine A_G rfl rfl rfl rfl (decide_eq_false hg29) ?_
  refine A_A rfl (A_r rfl (decide_eq_false hg29) rfl) ?_
  refine A_O ?_
  exact A_I ⟨rfl,rfl,rfl,rfl,rfl,A_Z (dq_F rfl (fun h=>hg29 h.1)),trivial⟩ rfl
 refine A_s K10 ?_
 refine A_E rfl (fun h32=>?_) (fun h32=>?_)
 ·have hs:=pow_succ_toNat q j h0
  have hp:=pow_pos_of q hq j.toNat
  have hpk:=pow_mono_of q hq (show (j+1).toNat<=k.toNat by omega)
  have hmm:0<=q^j.toNat*q/\q^j.toNat*q<=1000000*65536:=⟨Int.mul_nonneg (by omega) (by omega),Int.mul_le_mul (by omega) hq2 (by omega) (by omega)⟩
  refine esp K9 ?_
  refine A_C fun _ K11=>?_
  refine A_K ?_
  refine A_C fun _ K12=>?_
  refine esr rfl fun _ K13=>?_
  refine A_A rfl (ok_quo rfl rfl (by omega) (by omega) (by omega)) ?_
  refine A_A rfl (ok_gtr rfl rfl) ?_
  refine enk K13 ?_
  refine A_E rfl (fun h39=>?_) (fun h39=>?_)
  ·have hlt:m<q^j.toNat*q:=(Int.ediv_lt_iff_lt_mul (by omega)).1 h39
   refine esk rfl ?_
   refine A_R ?_
   exact retR2 (.inr rfl) results70 (A_H (A_T rfl (A_a (by unfold expF;rw [if_neg (by omega)])))) (A_H (A_T rfl (A_a (by unfold expE;rw [if_neg (by omega)]))))
  have hle:q^j.toNat*q<=m:=(Int.le_ediv_iff_mul_le (by omega)).1 (by omega)
  refine esp K12 ?_
  refine A_D ?_
  refine emm rfl ?_
  refine A_A rfl (ok_mul rfl rfl (by omega) (by omega)) ?_
  refine emm rfl ?_
  refine enk K11 ?_
  refine A_D ?_
  refine emm rfl ?_
  refine A_A rfl (A_m rfl rfl (by omega) (by omega)) ?_
  refine emm rfl ?_
  refine A_O ?_
  refine A_X (s:=(j)) (j+1) ⟨(by omega),(by omega),(by rw [hs];exact hle)⟩ (by omega) (A_I ⟨rfl,rfl,rfl,A_W (A_i (show (q^j.toNat)*q=q^(j+1).toNat by rw [hs])),rfl,trivial⟩ rfl)
 refine A_e ?_
 refine A_s K7 ?_
 refine A_C fun _ K15=>?_
 refine esr rfl fun _ K16=>?_
 refine A_A rfl (ok_gtr rfl rfl) ?_
 refine enk K16 ?_
 refine A_E rfl (fun h45=>?_) (fun h45=>?_)
 ·omega
 refine esp K15 ?_
 refine esk rfl ?_
 refine A_R ?_
 exact retR2 (.inr rfl) results70 (A_H (A_T rfl (A_a (by unfold expF;rw [show k=j by omega,if_pos h2])))) (A_H (A_T rfl (A_a (by unfold expE;rw [show k=j by omega,if_pos h2]))))

theorem rSize_ok (c:Cod)  : Ctr Tryz.prog 45 [aCod c] (aTup [aInt (sizV c),aInt (sizE c)]):=by
 refine A_p Tryz.call45 func45 rfl rfl ?_
 intro w O
 refine A_Y 0 2 rfl rfl (fun hlen0_2=>?_)
 refine A_Y 0 4 rfl rfl (fun hlen0_4=>?_)
 refine esr rfl fun _ K1=>?_
 refine A_h rfl rfl (AllOne.mem ⟨(A_F _),(A_F _),A_c,(A_F _),A_c,trivial⟩) (fun b1_1=>?_)
 refine emm rfl ?_
 refine enk K1 ?_
 refine esr rfl fun _ K2=>?_
 refine A_A rfl (A_P (k:=0) ti27 rfl rfl rfl) ?_
 refine A_A rfl (A_S (rcCheck_ok c) rfl) ?_
 refine emm rfl ?_
 refine enk K2 ?_
 refine A_C fun _ K3=>?_
 refine esr rfl fun _ K4=>?_
 refine A_A rfl (A_y rfl rfl) ?_
 refine enk K4 ?_
 refine A_E rfl (fun h8=>?_) (fun h8=>?_)
 ·have hsz:=sizE_code h8
  refine esk rfl ?_
  refine A_R ?_
  exact retR2 (.inr rfl) results45 (A_H (A_T rfl (A_a (by rw [sizV_no (by rw [hsz];exact h8)])))) (A_H (A_T rfl (A_a (by exact hsz.symm))))
 have hk:=codE_zero.1 (Classical.not_not.1 h8)
 have hqb:=hk.fld.1.bd
 have hln:=hk.len
 have hsx:=sizE_exp (Classical.not_not.1 h8)
 refine esp K3 ?_
 refine A_C fun _ K6=>?_
 refine A_t 11 mixed (by kernel_rfl) (by kernel_rfl) (by kernel_rfl) ?_
 refine dw_o rfl (A_B runUnderlying27 rfl sizeOf24 (by decide) rfl) ?_
 refine dw_o rfl (A_P (k:=0) ti24 rfl rfl rfl) ?_
 refine dw_o rfl (A_S (rOrder_ok c.F) rfl) ?_
 refine dw_o rfl (A_B runUnderlying27 rfl sizeOf25 (by decide) rfl) ?_
 refine dw_o rfl (A_L (k:=0) isAgg25 rfl rfl rfl) ?_
 refine dw_o rfl (A_z rfl runUnderlying25 rfl) ?_
 refine dw_o rfl (A_S (rExp_ok c.F.q (↑c.Gen.length:Int) 65536 (by omega) (by omega) (by omega) (by omega) (by omega) (by omega)) rfl) ?_
 refine dw_o rfl (A_Q rfl rfl) ?_
 refine dw_o rfl (A_Q rfl rfl) ?_
 refine dw_o rfl (ok_assign rfl) ?_
 refine dw_o rfl (ok_assign rfl) ?_
 refine dw_nil ?_
 refine enk K6 ?_
 refine A_R ?_
 exact retR2 (.inr rfl) results45 (A_H (A_T rfl (A_a (by exact sizV_exp hsx)))) (A_H (A_T rfl (A_a (by exact hsx.symm))))

theorem rAt_ok (c:Cod) (n:Int) (hk:COk c) (h0:0<=n) (h1:n<=9223372036854775807):Ctr Tryz.prog 108 [aCod c,aInt n] (aSl 1 false aInt (wdF c.F c.N c.Gen n)):=by
 have hq2:=hk.q2
 have hln:=hk.len
 have hn1:=hk.n1
 have hn64:=hk.n64
 refine A_p Tryz.call108 func108 rfl rfl ?_
 intro w O
 refine A_Y 0 2 rfl rfl (fun hlen0_2=>?_)
 refine A_Y 0 4 rfl rfl (fun hlen0_4=>?_)
 refine esr rfl fun _ K1=>?_
 refine A_h rfl rfl (AllOne.mem ⟨(A_F _),(A_F _),A_c,(A_F _),A_c,trivial⟩) (fun b2_1=>?_)
 refine emm rfl ?_
 refine enk K1 ?_
 refine esr rfl fun _ K2=>?_
 refine A_A rfl (A_B runUnderlying27 rfl sizeOf24 (by decide) rfl) ?_
 refine A_A rfl (A_P (k:=0) ti24 rfl rfl rfl) ?_
 refine A_A rfl (A_S (rOrder_ok c.F) rfl) ?_
 refine emm rfl ?_
 refine enk K2 ?_
 refine esr rfl fun _ K3=>?_
 refine A_A rfl (A_B runUnderlying27 rfl sizeOf25 (by decide) rfl) ?_
 refine A_A rfl (A_L (k:=0) isAgg25 rfl rfl rfl) ?_
 refine A_A rfl (A_z rfl runUnderlying25 rfl) ?_
 refine ent_make aInt 0 rfl vt22 rfl rfl (by omega) (by omega) (by omega) (fun _ _=>rfl) (AllV.mem ⟨rfl,trivial⟩) (fun b14_2=>?_)
 refine emm rfl ?_
 refine enk K3 ?_
 refine A_C fun _ K4=>?_
 refine esr rfl fun _ K5=>?_
 refine A_A rfl (ok_lenEx rfl runUnderlying22 rfl) ?_
 refine A_A rfl (ok_sub rfl rfl (by omega) (by omega)) ?_
 refine emm rfl ?_
 refine enk K5 ?_
 refine A_K ?_
 refine A_g (fun (i:Int)=>(⟨[(1,aInt (n/c.F.q^(c.Gen.length-1-i).toNat)),(2,aEx (.pointer (some ⟨b2_1,0,none⟩))),(5,aInt c.F.q),(6,aEx (vec (some b14_2) (((↑c.Gen.length:Int)).toNat) (((↑c.Gen.length:Int)).toNat))),(7,aInt i)],[oVec (some b14_2) (((↑c.Gen.length:Int)).toNat) 3 1 false aInt (atL c.F.q c.Gen.length i n),oBox b2_1 27 [aInt c.F.P,aInt c.F.M,aSl 1 false aInt c.F.mod,aInt c.N,aSl 1 false aInts c.Gen]]⟩:St)) (fun (i:Int)=>(-1<=i)/\(i<c.Gen.length)) (fun (i:Int)=>(i+1).toNat) ((↑(((↑c.Gen.length:Int)).toNat):Int)-1) ⟨(by omega),(by omega)⟩ (A_I ⟨A_W (A_i (show n=n/c.F.q^(c.Gen.length-1-((↑(((↑c.Gen.length:Int)).toNat):Int)-1)).toNat by simp)),rfl,rfl,rfl,rfl,trivial⟩ (A_N (A_n (show atL c.F.q c.Gen.length ((↑(((↑c.Gen.length:Int)).toNat):Int)-1) n=List.replicate (((↑c.Gen.length:Int)).toNat) 0 by rw [show ((((c.Gen.length:Int)).toNat:Nat):Int)=c.Gen.length by omega];exact atL_none _ _ _)) (rfl))) ?_
 rintro i ⟨i0,i1⟩
 show Ent _ ⟨_,[_,_]⟩ _
 have hal:=length_atL (q:=c.F.q) (v:=n) i0 i1
 have hp1:=pow_pos_of c.F.q hq2 (c.Gen.length-1-i).toNat
 have hcu:0<=n/c.F.q^(c.Gen.length-1-i).toNat/\n/c.F.q^(c.Gen.length-1-i).toNat<=n:=⟨Int.ediv_nonneg h0 (by omega),Int.ediv_le_self _ h0⟩
 refine A_C fun _ K6=>?_
 refine esr rfl fun _ K7=>?_
 refine A_A rfl (ok_geq rfl rfl) ?_
 refine enk K7 ?_
 refine A_E rfl (fun h19=>?_) (fun h19=>?_)
 ·refine esp K6 ?_
  refine A_C fun _ K8=>?_
  refine A_K ?_
  refine esr rfl fun _ K9=>?_
  refine A_A rfl (ok_rem rfl rfl (by omega) (by omega)) ?_
  refine A_A rfl (A_k sl22 rfl rfl (by omega) (by omega)) ?_
  refine ent_storeV (k:=0) (z:=(n/c.F.q^(c.Gen.length-1-i).toNat)%c.F.q) ti3 rfl rfl rfl (A_u (A_F _)) (by omega) (by omega) ?_
  refine enk K9 ?_
  refine A_D ?_
  refine emm rfl ?_
  refine A_A rfl (ok_quo rfl rfl (by omega) (by omega) (by omega)) ?_
  refine emm rfl ?_
  refine enk K8 ?_
  refine A_D ?_
  refine emm rfl ?_
  refine A_A rfl (ok_sub rfl rfl (by omega) (by omega)) ?_
  refine emm rfl ?_
  refine A_O ?_
  refine A_X (s:=(i)) (i-1) ⟨(by omega),(by omega)⟩ (by omega) (A_I ⟨A_W (A_i (show (n/c.F.q^(c.Gen.length-1-i).toNat)/c.F.q=n/c.F.q^(c.Gen.length-1-(i-1)).toNat by exact cur_step (by omega) h19 i1)),rfl,rfl,rfl,rfl,trivial⟩ (A_N (A_n (show atL c.F.q c.Gen.length (i-1) n=List.set (atL c.F.q c.Gen.length i n) (i).toNat ((n/c.F.q^(c.Gen.length-1-i).toNat)%c.F.q) by exact (atL_set (by omega) h19 i1).symm)) (rfl)))
 refine A_e ?_
 refine A_s K4 ?_
 refine A_C fun _ K10=>?_
 refine ent_give 0 6 rfl (cv_vec (k:=0) (off_erase rfl) (by simp_all) rfl) ?_
 refine A_D ?_
 refine A_A rfl (A_B runUnderlying27 rfl sizeOf24 (by decide) rfl) ?_
 refine A_A rfl (A_P (k:=0) ti24 rfl rfl rfl) ?_
 refine emm rfl ?_
 refine A_A rfl (A_B runUnderlying27 rfl sizeOf25 (by decide) rfl) ?_
 refine A_A rfl (A_L (k:=0) isAgg25 rfl rfl rfl) ?_
 refine A_A rfl (A_B runUnderlying27 rfl sizeOf3 (by decide) rfl) ?_
 refine A_A rfl (A_L (k:=0) isAgg3 rfl rfl rfl) ?_
 refine A_A rfl (A_S (rCombine_ok c.F (atL c.F.q c.Gen.length i n) c.Gen c.N hk.fld.1 (by omega) (by omega) (fun i i0 i1=>hk.row i0 i1)) rfl) ?_
 refine emm rfl ?_
 refine enk K10 ?_
 refine A_R ?_
 exact retR1 (.inr rfl) results108 (A_H (A_T rfl (cv_sl sub_x (by unfold wdF;rw [show i = -1 by omega,atL_all]))))

theorem rWords_ok (c:Cod)  : Ctr Tryz.prog 90 [aCod c] (aTup [aSl 1 false aInts (wdsL c),aInt (sizE c)]):=by
 refine A_p Tryz.call90 func90 rfl rfl ?_
 intro w O
 refine A_Y 0 2 rfl rfl (fun hlen0_2=>?_)
 refine A_Y 0 4 rfl rfl (fun hlen0_4=>?_)
 refine esr rfl fun _ K1=>?_
 refine A_h rfl rfl (AllOne.mem ⟨(A_F _),(A_F _),A_c,(A_F _),A_c,trivial⟩) (fun b1_1=>?_)
 refine emm rfl ?_
 refine enk K1 ?_
 refine esr rfl fun _ K2=>?_
 refine A_A rfl (A_P (k:=0) ti27 rfl rfl rfl) ?_
 refine A_A rfl (A_S (rSize_ok c) rfl) ?_
 refine emm rfl ?_
 refine A_A rfl (A_Q rfl rfl) ?_
 refine A_A rfl (A_Q rfl rfl) ?_
 refine emm rfl ?_
 refine enk K2 ?_
 refine A_C fun _ K3=>?_
 refine esr rfl fun _ K4=>?_
 refine A_A rfl (A_y rfl rfl) ?_
 refine enk K4 ?_
 refine A_E rfl (fun h14=>?_) (fun h14=>?_)
 ·refine esk rfl ?_
  refine A_R ?_
  exact retR2 (.inr rfl) results90 (A_H (A_T rfl (cv_nil (fun _=>rfl) (by exact (wdsL_no h14).symm)))) (A_H (A_T rfl (A_a rfl)))
 have hs:=Classical.not_not.1 h14
 have hk:=(sizE_zero.1 hs).1
 have hsv:=sizV_ok hs
 have hsq:=(sizE_zero.1 hs).2
 have hp1:=pow_pos_of c.F.q hk.q2 c.Gen.length
 refine esp K3 ?_
 refine esk rfl ?_
 refine A_C fun _ K7=>?_
 refine esk rfl ?_
 refine A_K ?_
 refine ent_open 22 1 false aInts (fun _=>rfl) ?_
 refine A_g (fun (ss:Int×Option Nat×Nat)=>match ss with | (i,rr3,cc3)=>(⟨[(1,aEx (.pointer (some ⟨b1_1,0,none⟩))),(4,aInt (sizV c)),(6,aEx (vec rr3 ((mapR (wdF c.F c.N c.Gen) i).length) cc3)),(7,aInt i)],[oVec rr3 cc3 22 1 false aInts (mapR (wdF c.F c.N c.Gen) i),oBox b1_1 27 [aInt c.F.P,aInt c.F.M,aSl 1 false aInt c.F.mod,aInt c.N,aSl 1 false aInts c.Gen]]⟩:St)) (fun (ss:Int×Option Nat×Nat)=>match ss with | (i,rr3,cc3)=>(0<=i)/\(i<=sizV c)) (fun (ss:Int×Option Nat×Nat)=>match ss with | (i,rr3,cc3)=>(sizV c-i).toNat) (0,none,0) ⟨(by omega),(by omega)⟩ (A_I ⟨rfl,rfl,A_W ((show aEx (vec none ([]:List _).length 0)=aEx (vec none ((mapR (wdF c.F c.N c.Gen) (0:Int)).length) 0) from av_vec (congrArg List.length (show mapR (wdF c.F c.N c.Gen) (0:Int) = [] by rfl).symm))),A_W (A_i (show 0=(0:Int) by rfl)),trivial⟩ (A_N (A_n (show mapR (wdF c.F c.N c.Gen) (0:Int) = [] by rfl)) (rfl))) ?_
 rintro ⟨i,rr3,cc3⟩ ⟨h0,h1⟩
 show Ent _ ⟨_,[_,_]⟩ _
 have lmr:=A_j (wdF c.F c.N c.Gen) i
 refine A_C fun _ K9=>?_
 refine esr rfl fun _ K10=>?_
 refine A_A rfl (A_o rfl rfl) ?_
 refine enk K10 ?_
 refine A_E rfl (fun h18=>?_) (fun h18=>?_)
 ·refine esp K9 ?_
  refine A_C fun _ K11=>?_
  refine A_K ?_
  refine A_D ?_
  refine emm rfl ?_
  refine A_A rfl (A_P (k:=1) ti27 rfl rfl rfl) ?_
  refine emm rfl ?_
  refine A_A rfl (A_S (rAt_ok c i hk ‹_› (by omega)) rfl) ?_
  refine ent_appendL (k:=0) (enc:=aInts) (y:=wdF c.F c.N c.Gen i) rfl rfl vt25 rfl rfl rfl rfl ((A_u A_c)) (by omega) (by omega) (by decide) (fun b26_4 c26_4=>?_)
  refine emm rfl ?_
  refine enk K11 ?_
  refine A_D ?_
  refine emm rfl ?_
  refine A_A rfl (A_m rfl rfl (by omega) (by omega)) ?_
  refine emm rfl ?_
  refine A_O ?_
  refine A_X (s:=(i,rr3,cc3)) (i+1,(some b26_4),c26_4) ⟨(by omega),‹_›⟩ (by dsimp only;omega) (A_I ⟨rfl,rfl,A_W (av_vec (congrArg List.length (show mapR (wdF c.F c.N c.Gen) (i+1)=(mapR (wdF c.F c.N c.Gen) i)++[wdF c.F c.N c.Gen i] by exact mapR_succ _ h0).symm)),rfl,trivial⟩ (A_N (A_n (show mapR (wdF c.F c.N c.Gen) (i+1)=(mapR (wdF c.F c.N c.Gen) i)++[wdF c.F c.N c.Gen i] by exact mapR_succ _ h0)) (rfl)))
 refine A_e ?_
 refine A_s K7 ?_
 refine esk rfl ?_
 refine A_R ?_
 exact retR2 (.inr rfl) results90 (A_H (A_T rfl (cv_vec (k:=0) (off_x rfl) rfl (by rw [wdsL_ok hs];unfold wds;rw [<- hsv];congr 1;omega)))) (A_H (A_T rfl (A_a (by exact hs.symm))))

theorem rProfile_ok (ws:List (List Int)) (y:List Int) (hl:ws.length<=1000000) (hy:y.length<=1000000):CtrF Tryz.prog 72 [aSl 1 false aInts ws,aSl 1 false aInt y] (aVec 3 1 false aInt (hisTo (y.length+1) (fun z=>dst (ix [] ws z) y) ws.length)):=by
 refine ctrF_of Tryz.call72 func72 rfl rfl ?_
 intro w O
 refine A_x 0 rfl (fun hlen0=>?_)
 refine A_x 1 rfl (fun hlen1=>?_)
 refine esk rfl ?_
 refine esr rfl fun _ K2=>?_
 refine A_A rfl (A_z rfl runUnderlying22 rfl) ?_
 refine A_A rfl (A_m rfl rfl (by omega) (by omega)) ?_
 refine ent_make aInt 0 rfl vt22 rfl rfl (by omega) (by omega) (by omega) (fun _ _=>rfl) (AllV.mem ⟨rfl,trivial⟩) (fun b10_1=>?_)
 refine emm rfl ?_
 refine enk K2 ?_
 refine A_C fun _ K3=>?_
 refine esk rfl ?_
 refine A_K ?_
 refine A_g (fun (i:Int)=>(⟨[(0,aSl 1 false aInts ws),(1,aSl 1 false aInt y),(5,aEx (vec (some b10_1) (((↑y.length:Int)+1).toNat) (((↑y.length:Int)+1).toNat))),(6,aInt i)],[oVec (some b10_1) (((↑y.length:Int)+1).toNat) 3 1 false aInt (hisTo (y.length+1) (fun z=>dst (ix [] ws z) y) i.toNat)]⟩:St)) (fun (i:Int)=>(0<=i)/\(i<=ws.length)) (fun (i:Int)=>(ws.length-i).toNat) 0 ⟨(by omega),(by omega)⟩ (A_I ⟨rfl,rfl,rfl,A_W (A_i (show 0=(0:Int) by rfl)),trivial⟩ (A_N (A_n (show hisTo (y.length+1) (fun z=>dst (ix [] ws z) y) (0:Int).toNat=List.replicate (((↑y.length:Int)+1).toNat) 0 by rfl)) (rfl))) ?_
 rintro i ⟨h0,h1⟩
 show Ent _ ⟨_,[_]⟩ _
 have lh:=length_hisTo (y.length+1) (fun z=>dst (ix [] ws z) y) i.toNat
 have hdb:=dst_bd (ix [] ws i) y
 have hhb:=his_bd (n:=y.length+1) (g:=fun z=>dst (ix [] ws z) y) (k:=i.toNat) (j:=dst (ix [] ws i) y) (fun z _ _=>by have:=dst_bd (ix [] ws z) y;omega) (by omega) (by omega)
 refine A_C fun _ K5=>?_
 refine esr rfl fun _ K6=>?_
 refine A_A rfl (A_z rfl runUnderlying25 rfl) ?_
 refine A_A rfl (A_o rfl rfl) ?_
 refine enk K6 ?_
 refine A_E rfl (fun h14=>?_) (fun h14=>?_)
 ·refine esp K5 ?_
  refine A_C fun _ K7=>?_
  refine A_K ?_
  refine A_D ?_
  refine emm rfl ?_
  refine A_A rfl (A_d [] sl25 rfl rfl (by omega) (by omega)) ?_
  refine A_A rfl (A_V ti22 rfl) ?_
  refine emm rfl ?_
  refine A_A rfl (A_S (rDistance_ok (ix [] ws i) y) rfl) ?_
  refine A_A rfl (A_k sl22 rfl rfl (by omega) (by omega)) ?_
  refine A_A rfl (ok_loadV (k:=0) 0 ti3 rfl rfl (by omega) (by omega)) ?_
  refine A_A rfl (A_m rfl rfl (by omega) (by omega)) ?_
  refine A_A rfl (A_k sl22 rfl rfl (by omega) (by omega)) ?_
  refine ent_storeV (k:=0) (z:=(ix 0 (hisTo (y.length+1) (fun z=>dst (ix [] ws z) y) i.toNat) (dst (ix [] ws i) y))+1) ti3 rfl rfl rfl (A_u (A_F _)) (by omega) (by omega) ?_
  refine enk K7 ?_
  refine A_D ?_
  refine emm rfl ?_
  refine A_A rfl (A_m rfl rfl (by omega) (by omega)) ?_
  refine emm rfl ?_
  refine A_O ?_
  refine A_X (s:=(i)) (i+1) ⟨(by omega),‹_›⟩ (by omega) (A_I ⟨rfl,rfl,rfl,rfl,trivial⟩ (A_N (A_n (show hisTo (y.length+1) (fun z=>dst (ix [] ws z) y) (i+1).toNat=List.set (hisTo (y.length+1) (fun z=>dst (ix [] ws z) y) i.toNat) (dst (ix [] ws i) y).toNat ((ix 0 (hisTo (y.length+1) (fun z=>dst (ix [] ws z) y) i.toNat) (dst (ix [] ws i) y))+1) by rw [his_step h0])) (rfl)))
 refine A_e ?_
 refine A_s K3 ?_
 refine esk rfl ?_
 refine A_R ?_
 exact retR1 (.inr rfl) results72 (A_H (A_T rfl (cvF_vecV (k:=0) flat_int rfl rfl (by simp) (by rw [show i.toNat=ws.length by omega]))))

theorem rNear_ok (c:Cod) (y:List Int)  : Ctr Tryz.prog 71 [aCod c,aSl 1 false aInt y] (aTup [aSl 1 false aInts (if neE c y=0 then (wds c.F c.N c.Gen) else []),aInt (neE c y)]):=by
 refine A_p Tryz.call71 func71 rfl rfl ?_
 intro w O
 refine A_Y 0 2 rfl rfl (fun hlen0_2=>?_)
 refine A_Y 0 4 rfl rfl (fun hlen0_4=>?_)
 refine A_x 1 rfl (fun hlen1=>?_)
 refine esr rfl fun _ K1=>?_
 refine A_h rfl rfl (AllOne.mem ⟨(A_F _),(A_F _),A_c,(A_F _),A_c,trivial⟩) (fun b2_1=>?_)
 refine emm rfl ?_
 refine enk K1 ?_
 refine esr rfl fun _ K2=>?_
 refine A_A rfl (A_P (k:=0) ti27 rfl rfl rfl) ?_
 refine emm rfl ?_
 refine A_A rfl (A_S (rWord_ok c y) rfl) ?_
 refine emm rfl ?_
 refine enk K2 ?_
 refine A_C fun _ K3=>?_
 refine esr rfl fun _ K4=>?_
 refine A_A rfl (A_y rfl rfl) ?_
 refine enk K4 ?_
 refine A_E rfl (fun h11=>?_) (fun h11=>?_)
 ·have he:neE c y=wrdE c y:=if_neg h11
  have hne:¬neE c y=0:=by rw [he];exact h11
  refine esk rfl ?_
  refine A_R ?_
  exact retR2 (.inr rfl) results71 (A_H (A_T rfl (cv_nil (fun _=>rfl) (by rw [if_neg hne])))) (A_H (A_T rfl (A_a (by exact he.symm))))
 have hoe2:neE c y=sizE c:=if_pos (Classical.not_not.1 h11)
 refine esp K3 ?_
 refine esr rfl fun _ K6=>?_
 refine A_A rfl (A_P (k:=0) ti27 rfl rfl rfl) ?_
 refine A_A rfl (A_S (rWords_ok c) rfl) ?_
 refine A_A rfl (A_Q rfl rfl) ?_
 refine A_A rfl (A_Q rfl rfl) ?_
 refine emm rfl ?_
 refine enk K6 ?_
 refine A_R ?_
 exact retR2 (.inr rfl) results71 (A_H (A_T rfl (cv_sl sub_x (by rw [hoe2];rfl)))) (A_H (A_T rfl (A_a (by exact hoe2.symm))))

theorem rCoset_ok (c:Cod) (y:List Int)  : Ctr Tryz.prog 46 [aCod c,aSl 1 false aInt y] (aTup [aSl 1 false aInt (coL c y),aInt (neE c y)]):=by
 refine A_p Tryz.call46 func46 rfl rfl ?_
 intro w O
 refine A_Y 0 2 rfl rfl (fun hlen0_2=>?_)
 refine A_Y 0 4 rfl rfl (fun hlen0_4=>?_)
 refine A_x 1 rfl (fun hlen1=>?_)
 refine esr rfl fun _ K1=>?_
 refine A_h rfl rfl (AllOne.mem ⟨(A_F _),(A_F _),A_c,(A_F _),A_c,trivial⟩) (fun b2_1=>?_)
 refine emm rfl ?_
 refine enk K1 ?_
 refine esr rfl fun _ K2=>?_
 refine A_A rfl (A_P (k:=0) ti27 rfl rfl rfl) ?_
 refine emm rfl ?_
 refine A_A rfl (A_S (rNear_ok c y) rfl) ?_
 refine emm rfl ?_
 refine A_A rfl (A_Q rfl rfl) ?_
 refine A_A rfl (A_Q rfl rfl) ?_
 refine emm rfl ?_
 refine enk K2 ?_
 refine A_C fun _ K3=>?_
 refine esr rfl fun _ K4=>?_
 refine A_A rfl (A_y rfl rfl) ?_
 refine enk K4 ?_
 refine A_E rfl (fun h15=>?_) (fun h15=>?_)
 ·refine esk rfl ?_
  refine A_R ?_
  exact retR2 (.inr rfl) results46 (A_H (A_T rfl (cv_nil (fun _=>rfl) (by rw [coL_no h15])))) (A_H (A_T rfl (A_a rfl)))
 have he:=Classical.not_not.1 h15
 have hs:=(ne_zero.1 he).2
 have hk:=(sizE_zero.1 hs).1
 have hsq:=(sizE_zero.1 hs).2
 have hcn:=hk.cn
 have hn64:=hk.n64
 have hyl:(y.length:Int)=c.N:=(wrdE_zero.1 (ne_zero.1 he).1).2.1
 have hX:(if neE c y=0 then (wds c.F c.N c.Gen) else [])=(wds c.F c.N c.Gen):=if_pos he
 have lwn:(wds c.F c.N c.Gen).length=c.n:=wds_len c
 refine esp K3 ?_
 refine esr rfl fun _ K6=>?_
 refine A_A rfl (A_S (CtrF.ctr (CtrF.sl (rProfile_ok (if neE c y=0 then (wds c.F c.N c.Gen) else []) y (by rw [hX];omega) (by omega)))) rfl) ?_
 refine emm rfl ?_
 refine enk K6 ?_
 refine A_R ?_
 exact retR2 (.inr rfl) results46 (A_H (A_T rfl (cv_sl sub_x (by rw [hX];exact co_ref he)))) (A_H (A_T rfl (A_a (by exact he.symm))))

theorem rCountC_ok (c:Cod) (m:Int)  : Ctr Tryz.prog 22 [aCod c,aInt m] (aInt (if sizE c≠0\/m<sizV c then 0 else sizV c)):=by
 refine A_p Tryz.call22 func22 rfl rfl ?_
 intro w O
 refine A_Y 0 2 rfl rfl (fun hlen0_2=>?_)
 refine A_Y 0 4 rfl rfl (fun hlen0_4=>?_)
 refine esr rfl fun _ K1=>?_
 refine A_h rfl rfl (AllOne.mem ⟨(A_F _),(A_F _),A_c,(A_F _),A_c,trivial⟩) (fun b2_1=>?_)
 refine emm rfl ?_
 refine enk K1 ?_
 refine esr rfl fun _ K2=>?_
 refine A_A rfl (A_P (k:=0) ti27 rfl rfl rfl) ?_
 refine A_A rfl (A_S (rSize_ok c) rfl) ?_
 refine emm rfl ?_
 refine A_A rfl (A_Q rfl rfl) ?_
 refine A_A rfl (A_Q rfl rfl) ?_
 refine emm rfl ?_
 refine enk K2 ?_
 refine A_C fun _ K3=>?_
 refine A_C fun _ K4=>?_
 refine ent_cut (⟨[(5,aInt (sizV c)),(18,aBool (decide (((sizE c)≠0)\/(m<(sizV c)))))],[oBox b2_1 27 [aInt c.F.P,aInt c.F.M,aSl 1 false aInt c.F.mod,aInt c.N,aSl 1 false aInts c.Gen]]⟩) ?_ ?_
 ·refine A_D ?_
  refine emm rfl ?_
  refine A_A rfl (A_y rfl rfl) ?_
  refine emm rfl ?_
  refine A_v rfl rfl rfl rfl (fun hg14=>?_) (fun hg14=>?_)
  ·refine emm rfl ?_
   refine A_M rfl rfl rfl rfl (decide_eq_false hg14) ?_
   refine emm rfl ?_
   refine A_M rfl rfl rfl rfl (decide_eq_false hg14) ?_
   refine A_A rfl (ok_gtr rfl rfl) ?_
   refine A_A rfl (A_r rfl (decide_eq_false hg14) rfl) ?_
   refine A_O ?_
   exact A_I ⟨rfl,A_Z (dq_Q ((or_iff_right hg14).trans Iff.rfl)),trivial⟩ rfl
  refine A_G rfl rfl rfl rfl (decide_eq_true hg14) ?_
  refine A_G rfl rfl rfl rfl (decide_eq_true hg14) ?_
  refine A_A rfl (A_l rfl (decide_eq_true hg14) rfl) ?_
  refine A_O ?_
  exact A_I ⟨rfl,A_Z (dq_T rfl (Or.inl hg14)),trivial⟩ rfl
 refine A_s K4 ?_
 refine A_E rfl (fun h18=>?_) (fun h18=>?_)
 ·refine esk rfl ?_
  refine A_R ?_
  exact retR1 (.inr rfl) results22 (A_H (A_T rfl (A_a (by exact (if_pos ‹_›).symm))))
 refine esp K3 ?_
 refine esk rfl ?_
 refine A_R ?_
 exact retR1 (.inr rfl) results22 (A_H (A_T rfl (A_a (by exact (if_neg ‹_›).symm))))

theorem rCoset28_ok (c:Cod) (y:List Int)  : Ctr Tryz.prog 23 [aCod c,aSl 1 false aInt y] (aSl 1 false aInt (coL c y)):=by
 refine A_p Tryz.call23 func23 rfl rfl ?_
 intro w O
 refine A_Y 0 2 rfl rfl (fun hlen0_2=>?_)
 refine A_Y 0 4 rfl rfl (fun hlen0_4=>?_)
 refine A_x 1 rfl (fun hlen1=>?_)
 refine esr rfl fun _ K1=>?_
 refine A_h rfl rfl (AllOne.mem ⟨(A_F _),(A_F _),A_c,(A_F _),A_c,trivial⟩) (fun b2_1=>?_)
 refine emm rfl ?_
 refine enk K1 ?_
 refine esr rfl fun _ K2=>?_
 refine A_A rfl (A_P (k:=0) ti27 rfl rfl rfl) ?_
 refine emm rfl ?_
 refine A_A rfl (A_S (rCoset_ok c y) rfl) ?_
 refine emm rfl ?_
 refine A_A rfl (A_Q rfl rfl) ?_
 refine A_A rfl (A_Q rfl rfl) ?_
 refine emm rfl ?_
 refine enk K2 ?_
 refine esk rfl ?_
 refine A_R ?_
 exact retR1 (.inr rfl) results23 (A_H (A_T rfl (cv_sl sub_x rfl)))

theorem CosetNumbers_walk (q:Clm) (h64:∀t∈q.L,-9223372036854775808<=t.1/\t.1<=9223372036854775807):Ctr Tryz.prog 6 [aClm q] (aBool true):=by
 refine A_p Tryz.call6 func6 rfl rfl ?_
 intro w O
 refine A_Y 0 2 rfl rfl (fun hlen0_2=>?_)
 refine A_Y 0 4 rfl rfl (fun hlen0_4=>?_)
 refine A_Y 0 5 rfl rfl (fun hlen0_5=>?_)
 refine A_Y 0 6 rfl rfl (fun hlen0_6=>?_)
 refine A_Y 0 7 rfl rfl (fun hlen0_7=>?_)
 refine esr rfl fun _ K1=>?_
 refine A_h rfl rfl (AllOne.mem ⟨(A_F _),(A_F _),A_c,(A_F _),A_c,A_c,A_c,A_c,(A_F _),trivial⟩) (fun b1_1=>?_)
 refine emm rfl ?_
 refine enk K1 ?_
 refine A_C fun _ K2=>?_
 refine esr rfl fun _ K3=>?_
 refine A_A rfl (A_B runUnderlying30 rfl sizeOf27 (by decide) rfl) ?_
 refine A_A rfl (A_P (k:=0) ti27 rfl rfl rfl) ?_
 refine A_A rfl (A_S (small_ok q.C) rfl) ?_
 refine A_A rfl (ok_notD rfl) ?_
 refine enk K3 ?_
 refine A_E rfl (fun h9=>?_) (fun h9=>?_)
 ·refine esr rfl fun _ K4=>?_
  refine A_A rfl (A_S alive_ok rfl) ?_
  refine emm rfl ?_
  refine enk K4 ?_
  refine A_R ?_
  exact retR1 (.inr rfl) results6 (A_H (A_T rfl (cv_bool rfl)))
 refine esp K2 ?_
 refine esr rfl fun _ K5=>?_
 refine A_A rfl (A_B runUnderlying30 rfl sizeOf27 (by decide) rfl) ?_
 refine A_A rfl (A_P (k:=0) ti27 rfl rfl rfl) ?_
 refine A_A rfl (A_B runUnderlying30 rfl sizeOf28 (by decide) rfl) ?_
 refine A_A rfl (A_L (k:=0) isAgg28 rfl rfl rfl) ?_
 refine A_A rfl (A_B runUnderlying30 rfl sizeOf3 (by decide) rfl) ?_
 refine A_A rfl (A_L (k:=0) isAgg3 rfl rfl rfl) ?_
 refine A_A rfl (A_S (cLds_ok q.C q.L q.S h64 (Classical.not_not.1 h9)) rfl) ?_
 refine emm rfl ?_
 refine A_A rfl (A_Q rfl rfl) ?_
 refine A_A rfl (A_Q rfl rfl) ?_
 refine emm rfl ?_
 refine enk K5 ?_
 refine esr rfl fun _ K6=>?_
 refine A_A rfl (A_B runUnderlying30 rfl sizeOf27 (by decide) rfl) ?_
 refine A_A rfl (A_P (k:=0) ti27 rfl rfl rfl) ?_
 refine A_A rfl (A_B runUnderlying30 rfl sizeOf28 (by decide) rfl) ?_
 refine A_A rfl (A_L (k:=0) isAgg28 rfl rfl rfl) ?_
 refine A_A rfl (A_S (rChk28_ok q.C q.L) rfl) ?_
 refine emm rfl ?_
 refine enk K6 ?_
 refine A_C fun _ K7=>?_
 refine A_C fun _ K8=>?_
 refine ent_cut (⟨[(1,aEx (.pointer (some ⟨b1_1,0,none⟩))),(3,aInt (lsV q.C q.L q.S)),(4,aInt (ldE q.C q.L q.S)),(5,aInt (chkL q.C q.L)),(40,aBool (decide (((chkL q.C q.L)=0)/\((q.S<0)\/((↑q.L.length:Int)<=q.S)))))],[oBox b1_1 30 [aInt q.C.F.P,aInt q.C.F.M,aSl 1 false aInt q.C.F.mod,aInt q.C.N,aSl 1 false aInts q.C.Gen,aSl 3 true aLab q.L,aSl 1 false aInt q.Y,aSl 1 false aInt q.M,aInt q.S]]⟩) ?_ ?_
 ·refine A_D ?_
  refine emm rfl ?_
  refine A_A rfl (ok_eql rfl rfl) ?_
  refine emm rfl ?_
  refine ent_guardXDt rfl rfl rfl rfl (fun hg28=>?_) (fun hg28=>?_)
  ·refine A_A rfl (A_B runUnderlying30 rfl sizeOf3 (by decide) rfl) ?_
   refine A_M rfl rfl rfl rfl (decide_eq_true hg28) ?_
   refine A_A rfl (A_L (k:=0) isAgg3 rfl rfl rfl) ?_
   refine A_M rfl rfl rfl rfl (decide_eq_true hg28) ?_
   refine A_A rfl (A_o rfl rfl) ?_
   refine A_M rfl rfl rfl rfl (decide_eq_true hg28) ?_
   refine emm rfl ?_
   refine A_v rfl rfl rfl rfl (fun hg32=>?_) (fun hg32=>?_)
   ·refine A_A rfl (A_B runUnderlying30 rfl sizeOf3 (by decide) rfl) ?_
    refine A_M rfl rfl rfl rfl (decide_eq_false hg32) ?_
    refine A_A rfl (A_L (k:=0) isAgg3 rfl rfl rfl) ?_
    refine A_M rfl rfl rfl rfl (decide_eq_false hg32) ?_
    refine A_A rfl (A_B runUnderlying30 rfl sizeOf28 (by decide) rfl) ?_
    refine A_M rfl rfl rfl rfl (decide_eq_false hg32) ?_
    refine A_A rfl (A_L (k:=0) isAgg28 rfl rfl rfl) ?_
    refine A_M rfl rfl rfl rfl (decide_eq_false hg32) ?_
    refine A_A rfl (A_z rfl runUnderlying28 rfl) ?_
    refine A_M rfl rfl rfl rfl (decide_eq_false hg32) ?_
    refine A_A rfl (ok_geq rfl rfl) ?_
    refine A_M rfl rfl rfl rfl (decide_eq_true hg28) ?_
    refine A_A rfl (A_r rfl (decide_eq_false hg32) rfl) ?_
    refine A_A rfl (A_l rfl (decide_eq_true hg28) rfl) ?_
    refine A_O ?_
    exact A_I ⟨rfl,rfl,rfl,rfl,A_Z (dq_Q ((and_iff_right hg28).trans ((or_iff_right hg32).trans Iff.rfl))),trivial⟩ rfl
   refine A_G rfl rfl rfl rfl (decide_eq_true hg32) ?_
   refine A_G rfl rfl rfl rfl (decide_eq_true hg32) ?_
   refine A_G rfl rfl rfl rfl (decide_eq_true hg32) ?_
   refine A_G rfl rfl rfl rfl (decide_eq_true hg32) ?_
   refine A_G rfl rfl rfl rfl (decide_eq_true hg32) ?_
   refine A_M rfl rfl rfl rfl (decide_eq_true hg28) ?_
   refine A_A rfl (A_l rfl (decide_eq_true hg32) rfl) ?_
   refine A_A rfl (A_l rfl (decide_eq_true hg28) rfl) ?_
   refine A_O ?_
   exact A_I ⟨rfl,rfl,rfl,rfl,A_Z (dq_T rfl ⟨hg28,(Or.inl hg32)⟩),trivial⟩ rfl
  refine A_G rfl rfl rfl rfl (decide_eq_false hg28) ?_
  refine A_G rfl rfl rfl rfl (decide_eq_false hg28) ?_
  refine A_G rfl rfl rfl rfl (decide_eq_false hg28) ?_
  refine ent_guardU rfl rfl rfl rfl ?_
  refine ent_guardU rfl rfl rfl rfl ?_
  refine ent_guardU rfl rfl rfl rfl ?_
  refine ent_guardU rfl rfl rfl rfl ?_
  refine ent_guardU rfl rfl rfl rfl ?_
  refine ent_guardU rfl rfl rfl rfl ?_
  refine A_G rfl rfl rfl rfl (decide_eq_false hg28) ?_
  refine A_A rfl (A_r rfl (decide_eq_false hg28) rfl) ?_
  refine A_O ?_
  exact A_I ⟨rfl,rfl,rfl,rfl,A_Z (dq_F rfl (fun h=>hg28 h.1)),trivial⟩ rfl
 refine A_s K8 ?_
 refine ent_cut (⟨[(1,aEx (.pointer (some ⟨b1_1,0,none⟩))),(3,aInt (lsV q.C q.L q.S)),(4,aInt (ldE q.C q.L q.S)),(5,aInt (ldE q.C q.L q.S))],[oBox b1_1 30 [aInt q.C.F.P,aInt q.C.F.M,aSl 1 false aInt q.C.F.mod,aInt q.C.N,aSl 1 false aInts q.C.Gen,aSl 3 true aLab q.L,aSl 1 false aInt q.Y,aSl 1 false aInt q.M,aInt q.S]]⟩) ?_ ?_
 ·refine A_E rfl (fun h40=>?_) (fun h40=>?_)
  ·refine A_D ?_
   refine emm rfl ?_
   refine A_O ?_
   exact A_I ⟨rfl,rfl,rfl,A_W (A_i (show 6=ldE q.C q.L q.S by exact (ldE_six h40).symm)),trivial⟩ rfl
  refine ent_skip ?_
  exact A_I ⟨rfl,rfl,rfl,A_W (A_i (show chkL q.C q.L=ldE q.C q.L q.S by exact (ldE_else h40).symm)),trivial⟩ rfl
 refine A_s K7 ?_
 refine A_C fun _ K9=>?_
 refine esr rfl fun _ K10=>?_
 refine A_A rfl (A_y rfl rfl) ?_
 refine emm rfl ?_
 refine A_M rfl rfl rfl rfl (decide_eq_false (fun hq=>hq rfl)) ?_
 refine A_A rfl (A_S alive_ok rfl) ?_
 refine A_M rfl rfl rfl rfl (decide_eq_false (fun hq=>hq rfl)) ?_
 refine A_A rfl (ok_not rfl) ?_
 refine A_A rfl (A_r rfl (decide_eq_false (fun hq=>hq rfl)) rfl) ?_
 refine enk K10 ?_
 refine ent_condF rfl ?_
 refine esp K9 ?_
 refine A_C fun _ K11=>?_
 refine esr rfl fun _ K12=>?_
 refine A_A rfl (A_y rfl rfl) ?_
 refine enk K12 ?_
 refine A_E rfl (fun h49=>?_) (fun h49=>?_)
 ·have hlv:lsV q.C q.L q.S=0:=if_neg h49
  refine esr rfl fun _ K13=>?_
  refine A_A rfl (ok_eql rfl rfl) ?_
  refine emm rfl ?_
  refine enk K13 ?_
  refine A_R ?_
  exact retR1 (.inr rfl) results6 (A_H (A_T rfl (cv_bool (by rw [hlv];rfl))))
 have h0:=Classical.not_not.1 h49
 have hlv:lsV q.C q.L q.S=numL q.C q.L q.S:=if_pos h0
 have hz:=ldE_zero h0
 have hcz:=chk_zero hz.1
 have hkk:=csE_zero.1 hcz.1
 have hk:=hkk.1
 have hlen:=hcz.2.len
 have hlf:=lead_facts hk hcz.2 hcz.1 hz.2.1 hz.2.2
 have hct:=hkk.2
 have hrs:=prv_rng hk hcz.2 hz.2.1 (by omega)
 have hn64:=hk.n64
 have hlz:(ix (0,0,0) q.L q.S).1=(lbl q.L q.S).1:=rfl
 refine esp K11 ?_
 refine A_C fun _ K14=>?_
 refine esr rfl fun _ K15=>?_
 refine A_A rfl (A_B runUnderlying30 rfl sizeOf27 (by decide) rfl) ?_
 refine A_A rfl (A_P (k:=0) ti27 rfl rfl rfl) ?_
 refine A_A rfl (A_S (rCountC_ok q.C 4096) rfl) ?_
 refine A_A rfl (ok_eql rfl rfl) ?_
 refine enk K15 ?_
 refine A_E rfl (fun h55=>?_) (fun h55=>?_)
 ·refine esk rfl ?_
  refine A_R ?_
  exact retR1 (.inr rfl) results6 (A_H (A_T rfl (cv_bool rfl)))
 have hsz:sizE q.C=0:=by by_cases g:sizE q.C=0;exact g;exact absurd (if_pos (.inl g)) h55
 have hne:neE q.C (leadW q.C q.L q.S)=0:=ne_zero.2 ⟨ws_word hlf.1,hsz⟩
 have hcf:=coL_facts hne
 have hlc:=hcf.1
 have hat:ix 0 (coL q.C (leadW q.C q.L q.S)) (ix (0,0,0) q.L q.S).1=numL q.C q.L q.S:=by unfold coL;rw [if_pos hne,ix_hisTo (fun i i0 i1=>dst_rng hk (leadW q.C q.L q.S) i) (by omega) (by omega)];rfl
 refine esp K14 ?_
 refine A_C fun _ K17=>?_
 refine A_t 22 mixed (by kernel_rfl) (by kernel_rfl) (by kernel_rfl) ?_
 refine dw_o rfl (A_J rfl) ?_
 refine dw_o rfl (A_B runUnderlying30 rfl sizeOf27 (by decide) rfl) ?_
 refine dw_o rfl (A_P (k:=0) ti27 rfl rfl rfl) ?_
 refine dw_o rfl (A_B runUnderlying30 rfl sizeOf27 (by decide) rfl) ?_
 refine dw_o rfl (A_P (k:=0) ti27 rfl rfl rfl) ?_
 refine dw_o rfl (A_B runUnderlying30 rfl sizeOf28 (by decide) rfl) ?_
 refine dw_o rfl (A_L (k:=0) isAgg28 rfl rfl rfl) ?_
 refine dw_o rfl (A_B runUnderlying30 rfl sizeOf3 (by decide) rfl) ?_
 refine dw_o rfl (A_L (k:=0) isAgg3 rfl rfl rfl) ?_
 refine dw_o rfl (A_S (rLeader_ok q.C q.L q.S hcz.1 hcz.2 hz.2.1 hz.2.2) rfl) ?_
 refine dw_o rfl (A_S (rCoset28_ok q.C (leadW q.C q.L q.S)) rfl) ?_
 refine dw_o rfl (A_B runUnderlying30 rfl sizeOf28 (by decide) rfl) ?_
 refine dw_o rfl (A_L (k:=0) isAgg28 rfl rfl rfl) ?_
 refine dw_o rfl (A_B runUnderlying30 rfl sizeOf3 (by decide) rfl) ?_
 refine dw_o rfl (A_L (k:=0) isAgg3 rfl rfl rfl) ?_
 refine dw_o rfl (A_d (0,0,0) sl28 rfl rfl (by omega) (by omega)) ?_
 refine dw_o rfl (A_f runUnderlying45 rfl sizeOf3 rfl rfl) ?_
 refine dw_o rfl (A_V ti3 rfl) ?_
 refine dw_o rfl (A_d 0 sl22 rfl rfl (by omega) (by omega)) ?_
 refine dw_o rfl (A_V ti3 rfl) ?_
 refine dw_o rfl (ok_eql rfl rfl) ?_
 refine dw_o rfl (ok_assign rfl) ?_
 refine dw_nil ?_
 refine enk K17 ?_
 refine A_R ?_
 exact retR1 (.inr rfl) results6 (A_H (A_T rfl (cv_bool (by refine decide_eq_true ?_;rw [hlv];first | exact hat.symm | rfl))))
end Go.Proofs.YtcilbmggiahciaaGreat
