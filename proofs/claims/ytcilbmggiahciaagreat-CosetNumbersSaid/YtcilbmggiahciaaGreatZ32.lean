/-
  Walks of functions of the program and the reference.
-/
import Derived.Test.YtcilbmggiahciaaGreatPlainJ2
import Derived.Test.YtcilbmggiahciaaGreatZ31
open Go Go.Cw
namespace Go.Proofs.YtcilbmggiahciaaGreat
open Tryz
set_option maxRecDepth 100000
set_option linter.unusedVariables false
set_option linter.unusedSimpArgs false

theorem rspCheck_ok (f:Fld) (m:Mat)  : Ctr Tryz.prog 79 [aFld f,aMat m] (aInt (spcE f m)):=by
 refine A_p Tryz.call79 func79 rfl rfl ?_
 intro w O
 refine A_Y 0 2 rfl rfl (fun hlen0_2=>?_)
 refine A_Y 1 1 rfl rfl (fun hlen1_1=>?_)
 refine esr rfl fun _ K1=>?_
 refine A_h rfl rfl (AllOne.mem ⟨(A_F _),(A_F _),A_c,trivial⟩) (fun b2_1=>?_)
 refine A_h rfl rfl (AllOne.mem ⟨(A_F _),A_c,trivial⟩) (fun b3_2=>?_)
 refine emm rfl ?_
 refine enk K1 ?_
 refine esr rfl fun _ K2=>?_
 refine A_A rfl (A_P (k:=1) ti24 rfl rfl rfl) ?_
 refine A_A rfl (A_P (k:=0) ti107 rfl rfl rfl) ?_
 refine A_A rfl (A_S (rMCheck_ok f m) rfl) ?_
 refine emm rfl ?_
 refine enk K2 ?_
 refine A_C fun _ K3=>?_
 refine esr rfl fun _ K4=>?_
 refine A_A rfl (A_y rfl rfl) ?_
 refine enk K4 ?_
 refine A_E rfl (fun h12=>?_) (fun h12=>?_)
 ·refine esk rfl ?_
  refine A_R ?_
  exact retR1 (.inr rfl) results79 (A_H (A_T rfl (A_a (by unfold spcE;rw [if_neg h12]))))
 have hme:=Classical.not_not.1 h12
 have hF:=(mErr_zero.1 hme).1
 have hgm:=mat_good (mErr_zero.1 hme).2
 have hsz:=mat_size (mErr_zero.1 hme).2
 have hcm:(canM f m).rows=canR (elim f m.rows [] m.cols.toNat):=by rw [canM_ok hme];rfl
 refine esp K3 ?_
 refine esr rfl fun _ K6=>?_
 refine A_A rfl (A_P (k:=1) ti24 rfl rfl rfl) ?_
 refine A_A rfl (A_B runUnderlying107 rfl sizeOf25 (by decide) rfl) ?_
 refine A_A rfl (A_L (k:=0) isAgg25 rfl rfl rfl) ?_
 refine A_A rfl (A_B runUnderlying107 rfl sizeOf3 (by decide) rfl) ?_
 refine A_A rfl (A_L (k:=0) isAgg3 rfl rfl rfl) ?_
 refine A_A rfl (A_S (rCanon_ok f m.rows m.cols m.cols.toNat hF hgm (by omega) (by omega) (by omega) (by omega)) rfl) ?_
 refine emm rfl ?_
 refine A_A rfl (A_Q rfl rfl) ?_
 refine A_A rfl (A_Q rfl rfl) ?_
 refine emm rfl ?_
 refine enk K6 ?_
 refine A_C fun _ K7=>?_
 refine esr rfl fun _ K8=>?_
 refine A_A rfl (A_B runUnderlying107 rfl sizeOf25 (by decide) rfl) ?_
 refine A_A rfl (A_L (k:=0) isAgg25 rfl rfl rfl) ?_
 refine A_A rfl (A_S (SameRows_ok (canR (elim f m.rows [] m.cols.toNat)) m.rows) rfl) ?_
 refine A_A rfl (ok_notD rfl) ?_
 refine enk K8 ?_
 refine A_E rfl (fun h27=>?_) (fun h27=>?_)
 ·refine esk rfl ?_
  refine A_R ?_
  exact retR1 (.inr rfl) results79 (A_H (A_T rfl (A_a (by unfold spcE;rw [if_pos hme,hcm,if_neg h27]))))
 refine esp K7 ?_
 refine esk rfl ?_
 refine A_R ?_
 exact retR1 (.inr rfl) results79 (A_H (A_T rfl (A_a (by unfold spcE;rw [if_pos hme,hcm,if_pos (Classical.not_not.1 h27)]))))

theorem rcCheck_ok (c:Cod)  : Ctr Tryz.prog 51 [aCod c] (aInt (codE c)):=by
 refine A_p Tryz.call51 func51 rfl rfl ?_
 intro w O
 refine A_Y 0 2 rfl rfl (fun hlen0_2=>?_)
 refine A_Y 0 4 rfl rfl (fun hlen0_4=>?_)
 refine esr rfl fun _ K1=>?_
 refine A_h rfl rfl (AllOne.mem ⟨(A_F _),(A_F _),A_c,(A_F _),A_c,trivial⟩) (fun b1_1=>?_)
 refine emm rfl ?_
 refine enk K1 ?_
 refine esr rfl fun _ K2=>?_
 refine A_A rfl (A_B runUnderlying27 rfl sizeOf24 (by decide) rfl) ?_
 refine A_A rfl (A_P (k:=0) ti24 rfl rfl rfl) ?_
 refine A_A rfl (A_S (rCheck_ok c.F) rfl) ?_
 refine emm rfl ?_
 refine enk K2 ?_
 refine A_C fun _ K3=>?_
 refine esr rfl fun _ K4=>?_
 refine A_A rfl (A_y rfl rfl) ?_
 refine enk K4 ?_
 refine A_E rfl (fun h8=>?_) (fun h8=>?_)
 ·have hF:¬FOk c.F:=fun h=>h8 (fErr_zero.2 h)
  have h1:=fErr_no hF
  refine esk rfl ?_
  refine A_R ?_
  exact retR1 (.inr rfl) results51 (A_H (A_T rfl (A_a (by rw [h1];exact codE_no hF))))
 have hF:=fErr_zero.1 (Classical.not_not.1 h8)
 refine esp K3 ?_
 refine A_C fun _ K6=>?_
 refine A_C fun _ K7=>?_
 refine ent_cut (⟨[(1,aEx (.pointer (some ⟨b1_1,0,none⟩))),(17,aBool (decide ((c.N<1)\/(64<c.N))))],[oBox b1_1 27 [aInt c.F.P,aInt c.F.M,aSl 1 false aInt c.F.mod,aInt c.N,aSl 1 false aInts c.Gen]]⟩) ?_ ?_
 ·refine A_D ?_
  refine A_A rfl (A_B runUnderlying27 rfl sizeOf3 (by decide) rfl) ?_
  refine A_A rfl (A_L (k:=0) isAgg3 rfl rfl rfl) ?_
  refine A_A rfl (A_o rfl rfl) ?_
  refine emm rfl ?_
  refine A_v rfl rfl rfl rfl (fun hg13=>?_) (fun hg13=>?_)
  ·refine A_A rfl (A_B runUnderlying27 rfl sizeOf3 (by decide) rfl) ?_
   refine A_M rfl rfl rfl rfl (decide_eq_false hg13) ?_
   refine A_A rfl (A_L (k:=0) isAgg3 rfl rfl rfl) ?_
   refine A_M rfl rfl rfl rfl (decide_eq_false hg13) ?_
   refine A_A rfl (ok_gtr rfl rfl) ?_
   refine A_A rfl (A_r rfl (decide_eq_false hg13) rfl) ?_
   refine A_O ?_
   exact A_I ⟨rfl,A_Z (dq_Q ((or_iff_right hg13).trans Iff.rfl)),trivial⟩ rfl
  refine A_G rfl rfl rfl rfl (decide_eq_true hg13) ?_
  refine A_G rfl rfl rfl rfl (decide_eq_true hg13) ?_
  refine A_A rfl (A_l rfl (decide_eq_true hg13) rfl) ?_
  refine A_O ?_
  exact A_I ⟨rfl,A_Z (dq_T rfl (Or.inl hg13)),trivial⟩ rfl
 refine A_s K7 ?_
 refine A_E rfl (fun h17=>?_) (fun h17=>?_)
 ·refine esk rfl ?_
  refine A_R ?_
  exact retR1 (.inr rfl) results51 (A_H (A_T rfl (A_a (by unfold codE;rw [if_pos hF,if_pos h17]))))
 refine esp K6 ?_
 refine esr rfl fun _ K9=>?_
 refine A_A rfl (A_B runUnderlying27 rfl sizeOf24 (by decide) rfl) ?_
 refine A_A rfl (A_P (k:=0) ti24 rfl rfl rfl) ?_
 refine A_A rfl (A_B runUnderlying27 rfl sizeOf3 (by decide) rfl) ?_
 refine A_A rfl (A_L (k:=0) isAgg3 rfl rfl rfl) ?_
 refine A_A rfl (A_B runUnderlying27 rfl sizeOf25 (by decide) rfl) ?_
 refine A_A rfl (A_L (k:=0) isAgg25 rfl rfl rfl) ?_
 refine A_A rfl (ok_build st107 (As:=[aInt 0,aEx (.slice none 0 0)]) z107 (⟨0,1,rfl,.inl ⟨rfl,_,rfl,(A_F _),rfl,⟨1,1,rfl,.inl ⟨rfl,_,rfl,A_c,rfl,rfl⟩⟩⟩⟩)) ?_
 refine A_A rfl (ok_callA (rspCheck_ok c.F c.m) ⟨arg_a rfl (cv_id sub_refl),arg_a rfl (cv_agg ⟨A_a rfl,cv_sl sub_refl rfl,trivial⟩),trivial⟩) ?_
 refine emm rfl ?_
 refine enk K9 ?_
 refine A_R ?_
 exact retR1 (.inr rfl) results51 (A_H (A_T rfl (A_a (by unfold codE;rw [if_pos hF,if_neg h17]))))

theorem rList_ok (f:Fld) (l:List Int) (n:Int)  : Ctr Tryz.prog 52 [aFld f,aSl 1 false aInt l,aInt n] (aInt (lisE f l n)):=by
 refine A_p Tryz.call52 func52 rfl rfl ?_
 intro w O
 refine A_Y 0 2 rfl rfl (fun hlen0_2=>?_)
 refine A_x 1 rfl (fun hlen1=>?_)
 refine esr rfl fun _ K1=>?_
 refine A_h rfl rfl (AllOne.mem ⟨(A_F _),(A_F _),A_c,trivial⟩) (fun b3_1=>?_)
 refine emm rfl ?_
 refine enk K1 ?_
 refine A_C fun _ K2=>?_
 refine esr rfl fun _ K3=>?_
 refine A_A rfl (A_z rfl runUnderlying22 rfl) ?_
 refine emm rfl ?_
 refine A_A rfl (A_y rfl rfl) ?_
 refine enk K3 ?_
 refine A_E rfl (fun h10=>?_) (fun h10=>?_)
 ·refine esk rfl ?_
  refine A_R ?_
  exact retR1 (.inr rfl) results52 (A_H (A_T rfl (A_a (by unfold lisE;rw [if_pos h10]))))
 refine esp K2 ?_
 refine esr rfl fun _ K5=>?_
 refine A_A rfl (A_P (k:=0) ti24 rfl rfl rfl) ?_
 refine emm rfl ?_
 refine A_A rfl (A_S (rEntries_ok f l) rfl) ?_
 refine emm rfl ?_
 refine enk K5 ?_
 refine A_R ?_
 exact retR1 (.inr rfl) results52 (A_H (A_T rfl (A_a (by unfold lisE;rw [if_neg h10]))))

theorem rWord_ok (c:Cod) (x:List Int)  : Ctr Tryz.prog 49 [aCod c,aSl 1 false aInt x] (aInt (wrdE c x)):=by
 refine A_p Tryz.call49 func49 rfl rfl ?_
 intro w O
 refine A_Y 0 2 rfl rfl (fun hlen0_2=>?_)
 refine A_Y 0 4 rfl rfl (fun hlen0_4=>?_)
 refine A_x 1 rfl (fun hlen1=>?_)
 refine esr rfl fun _ K1=>?_
 refine A_h rfl rfl (AllOne.mem ⟨(A_F _),(A_F _),A_c,(A_F _),A_c,trivial⟩) (fun b2_1=>?_)
 refine emm rfl ?_
 refine enk K1 ?_
 refine esr rfl fun _ K2=>?_
 refine A_A rfl (A_P (k:=0) ti27 rfl rfl rfl) ?_
 refine A_A rfl (A_S (rcCheck_ok c) rfl) ?_
 refine emm rfl ?_
 refine enk K2 ?_
 refine A_C fun _ K3=>?_
 refine esr rfl fun _ K4=>?_
 refine A_A rfl (ok_eql rfl rfl) ?_
 refine enk K4 ?_
 refine ent_cut (⟨[(5,aInt (wrdE c x))],[oBox b2_1 27 [aInt c.F.P,aInt c.F.M,aSl 1 false aInt c.F.mod,aInt c.N,aSl 1 false aInts c.Gen]]⟩) ?_ ?_
 ·refine A_E rfl (fun h9=>?_) (fun h9=>?_)
  ·refine A_D ?_
   refine A_A rfl (A_B runUnderlying27 rfl sizeOf24 (by decide) rfl) ?_
   refine A_A rfl (A_P (k:=0) ti24 rfl rfl rfl) ?_
   refine emm rfl ?_
   refine A_A rfl (A_B runUnderlying27 rfl sizeOf3 (by decide) rfl) ?_
   refine A_A rfl (A_L (k:=0) isAgg3 rfl rfl rfl) ?_
   refine A_A rfl (A_S (rList_ok c.F x c.N) rfl) ?_
   refine emm rfl ?_
   refine A_O ?_
   exact A_I ⟨A_W (A_i (show lisE c.F x c.N=wrdE c x by unfold wrdE;first | (rw [if_pos h9]) | (rw [if_neg h9]))),trivial⟩ rfl
  refine ent_skip ?_
  exact A_I ⟨A_W (A_i (show codE c=wrdE c x by unfold wrdE;first | (rw [if_pos h9]) | (rw [if_neg h9]))),trivial⟩ rfl
 refine A_s K3 ?_
 refine esk rfl ?_
 refine A_R ?_
 exact retR1 (.inr rfl) results49 (A_H (A_T rfl (A_a rfl)))

theorem own_ok (f:Fld) (hS:Shape f):Ctr Tryz.prog 119 [aFld f] (aFld f):=by
 have hml:=hS.mod_le
 refine A_p Tryz.call119 func119 rfl rfl ?_
 intro w O
 refine A_Y 0 2 rfl rfl (fun hlen0_2=>?_)
 refine esr rfl fun _ K1=>?_
 refine A_h rfl rfl (AllOne.mem ⟨(A_F _),(A_F _),A_c,trivial⟩) (fun b1_1=>?_)
 refine ent_alloc (z:=.agg #[.int .i64 0,.int .i64 0,.slice none 0 0]) [aInt 0,aInt 0,aEx (.slice none 0 0)] rfl zv24 rfl zc24 (fun b2_2=>?_)
 refine enk K1 ?_
 refine esr rfl fun _ K2=>?_
 refine A_A rfl (A_B runUnderlying24 rfl sizeOf22 (by decide) rfl) ?_
 refine A_A rfl (A_L (k:=1) isAgg22 rfl rfl rfl) ?_
 refine A_A rfl (A_S (CtrN.ctr (Clone_ok f.mod (by omega))) rfl) ?_
 refine A_A rfl (A_B runUnderlying24 rfl sizeOf22 (by decide) rfl) ?_
 refine ent_storeB (k:=1) sizeOf22 rfl rfl rfl A_c rfl ?_
 refine enk K2 ?_
 refine esr rfl fun _ K3=>?_
 refine A_A rfl (A_P (k:=1) ti24 rfl rfl rfl) ?_
 refine ent_storeBS (k:=0) sizeOf24 rfl rfl rfl (AllOne.mem ⟨(A_F _),(A_F _),A_c,trivial⟩) rfl rfl ?_
 show Ent _ ⟨_,[_,_]⟩ _
 refine enk K3 ?_
 refine A_R ?_
 exact retR1 (.inr rfl) results119 (resr_cell (k:=0) ti24 rfl rfl rfl (cv_agg ⟨A_a rfl,A_a rfl,cv_sl sub_x rfl,trivial⟩))

theorem of_ok (f:Fld) (m:Mat) (hS:Shape f):Ctr Tryz.prog 103 [aFld f,aMat m,aInt 0] (aTup [aCod (⟨f,m.cols,m.rows⟩),aInt 0]):=by
 refine A_p Tryz.call103 func103 rfl rfl ?_
 intro w O
 refine A_Y 0 2 rfl rfl (fun hlen0_2=>?_)
 refine A_Y 1 1 rfl rfl (fun hlen1_1=>?_)
 refine esr rfl fun _ K1=>?_
 refine A_h rfl rfl (AllOne.mem ⟨(A_F _),(A_F _),A_c,trivial⟩) (fun b3_1=>?_)
 refine A_h rfl rfl (AllOne.mem ⟨(A_F _),A_c,trivial⟩) (fun b4_2=>?_)
 refine ent_alloc (z:=.agg #[.int .i64 0,.int .i64 0,.slice none 0 0,.int .i64 0,.slice none 0 0]) [aInt 0,aInt 0,aEx (.slice none 0 0),aInt 0,aEx (.slice none 0 0)] rfl zv27 rfl zc27 (fun b6_3=>?_)
 refine emm rfl ?_
 refine enk K1 ?_
 refine A_C fun _ K2=>?_
 refine esr rfl fun _ K3=>?_
 refine A_A rfl (A_y rfl rfl) ?_
 refine enk K3 ?_
 refine ent_condFP rfl (by decide) ?_
 refine esp K2 ?_
 refine A_C fun _ K4=>?_
 refine A_t 7 mixed (by kernel_rfl) (by kernel_rfl) (by kernel_rfl) ?_
 refine dw_o rfl (A_P (k:=2) ti24 rfl rfl rfl) ?_
 refine dw_o rfl (A_S (own_ok f ‹_›) rfl) ?_
 refine dw_o rfl (A_B runUnderlying107 rfl sizeOf3 (by decide) rfl) ?_
 refine dw_o rfl (A_L (k:=1) isAgg3 rfl rfl rfl) ?_
 refine dw_o rfl (A_B runUnderlying107 rfl sizeOf25 (by decide) rfl) ?_
 refine dw_o rfl (A_L (k:=1) isAgg25 rfl rfl rfl) ?_
 refine dw_o rfl (ok_build st27 (As:=[aInt 0,aInt 0,aEx (.slice none 0 0),aInt 0,aEx (.slice none 0 0)]) z27 (⟨0,3,rfl,.inr ⟨_,rfl,rfl,rfl,⟨3,1,rfl,.inl ⟨rfl,_,rfl,(A_F _),rfl,⟨4,1,rfl,.inl ⟨rfl,_,rfl,A_c,rfl,rfl⟩⟩⟩⟩⟩⟩)) ?_
 refine dw_nil ?_
 refine ent_storeBS (k:=0) sizeOf27 rfl rfl rfl (AllOne.mem ⟨(A_F _),(A_F _),A_c,(A_F _),A_c,trivial⟩) rfl rfl ?_
 show Ent _ ⟨_,[_,_,_]⟩ _
 refine emm rfl ?_
 refine enk K4 ?_
 refine A_R ?_
 exact retR2 (.inr rfl) results103 (resr_cell (k:=0) ti27 rfl rfl rfl (cv_agg ⟨A_a rfl,A_a rfl,cv_sl sub_x rfl,A_a rfl,cv_sl sub_x rfl,trivial⟩)) (A_H (A_T rfl (A_a rfl)))

theorem Dual_ok (c:Cod) (hk:COk c):Ctr Tryz.prog 82 [aCod c] (aTup [aCod (dua c),aInt 0]):=by
 have hc0:=codE_zero.2 hk
 have hkm:=kerM_code hk
 have hme:=hk.mat
 refine A_p Tryz.call82 func82 rfl rfl ?_
 intro w O
 refine A_Y 0 2 rfl rfl (fun hlen0_2=>?_)
 refine A_Y 0 4 rfl rfl (fun hlen0_4=>?_)
 refine esr rfl fun _ K1=>?_
 refine A_h rfl rfl (AllOne.mem ⟨(A_F _),(A_F _),A_c,(A_F _),A_c,trivial⟩) (fun b1_1=>?_)
 refine ent_alloc (z:=.agg #[.int .i64 0,.int .i64 0,.slice none 0 0,.int .i64 0,.slice none 0 0]) [aInt 0,aInt 0,aEx (.slice none 0 0),aInt 0,aEx (.slice none 0 0)] rfl zv27 rfl zc27 (fun b2_2=>?_)
 refine emm rfl ?_
 refine enk K1 ?_
 refine A_C fun _ K2=>?_
 refine esr rfl fun _ K3=>?_
 refine A_A rfl (A_P (k:=1) ti27 rfl rfl rfl) ?_
 refine A_A rfl (A_S (cCheck_ok c) rfl) ?_
 refine emm rfl ?_
 refine enk K3 ?_
 refine esr rfl fun _ K4=>?_
 refine A_A rfl (A_y rfl rfl) ?_
 refine enk K4 ?_
 refine A_E rfl (fun h10=>?_) (fun h10=>?_)
 ·exact absurd hc0 h10
 refine esp K2 ?_
 refine A_C fun _ K5=>?_
 refine ent_drawB2 (T:=107) (z:=.agg #[.int .i64 0,.slice none 0 0]) (As:=[aInt 0,aEx (.slice none 0 0)]) 9 [7] 8 5 [(14,aEx (.pointer (some ⟨b1_1,0,none⟩))),(15,aAgg [aInt c.F.P,aInt c.F.M,aSl 1 false aInt c.F.mod]),(16,aAgg [aInt c.F.P,aInt c.F.M,aSl 1 false aInt c.F.mod,aInt c.N,aSl 1 false aInts c.Gen]),(17,aMat c.m),(18,aTup [aMat (kerM c.F c.m),aInt (mErr c.F c.m)]),(13,aTup [aMat (kerM c.F c.m),aInt (mErr c.F c.m)]),(19,aMat (kerM c.F c.m)),(20,aInt (mErr c.F c.m)),(5,aBoxF w.heap.size 107 [aInt 0,aEx (.slice none 0 0)])] mixed (by kernel_rfl) (by kernel_rfl) (by kernel_rfl) (by kernel_rfl) (by kernel_rfl) (fun _ _ _ _ _ h=>h) rfl (by kernel_rfl) (by kernel_rfl) (fun _=>by kernel_rfl) (fun _=>by kernel_rfl) (fun _=>by kernel_rfl) zv107 rfl zc107 (by kernel_rfl) ?_ (fun bb_3=>?_)
 ·refine dwl_o rfl rfl (OpOK.eqv (A_B runUnderlying27 rfl sizeOf24 (by decide) rfl) rfl) ?_
  refine dwl_o rfl rfl (OpOK.eqv (A_P (k:=1) ti24 rfl rfl rfl) rfl) ?_
  refine dwl_o rfl rfl (OpOK.eqv (A_P (k:=1) ti27 rfl rfl rfl) rfl) ?_
  refine dwl_o rfl rfl (OpOK.eqv (A_S (gen_ok c) rfl) rfl) ?_
  refine dwl_o rfl rfl (OpOK.eqv (A_S (mKernel_ok c.F c.m) rfl) rfl) ?_
  refine dwl_o rfl rfl (OpOK.eqv (A_J rfl) rfl) ?_
  refine dwl_o rfl rfl (OpOK.eqv (A_Q rfl rfl) rfl) ?_
  refine dwl_o rfl rfl (OpOK.eqv (A_Q rfl rfl) rfl) ?_
  refine dwl_o rfl rfl (OpOK.eqv (ok_allocF (z:=.agg #[.int .i64 0,.slice none 0 0]) [aInt 0,aEx (.slice none 0 0)] zv107 rfl zc107) rfl) ?_
  exact dwl_nil trivial
 refine dwl_o rfl rfl (OpOK.eqv (A_B runUnderlying27 rfl sizeOf24 (by decide) rfl) rfl) ?_
 refine dwl_o rfl rfl (OpOK.eqv (A_P (k:=2) ti24 rfl rfl rfl) rfl) ?_
 refine dwl_o rfl rfl (OpOK.eqv (A_P (k:=2) ti27 rfl rfl rfl) rfl) ?_
 refine dwl_o rfl rfl (OpOK.eqv (A_S (gen_ok c) rfl) rfl) ?_
 refine dwl_o rfl rfl (OpOK.eqv (A_S (mKernel_ok c.F c.m) rfl) rfl) ?_
 refine dwl_o rfl rfl (OpOK.eqv (A_J rfl) rfl) ?_
 refine dwl_o rfl rfl (OpOK.eqv (A_Q rfl rfl) rfl) ?_
 refine dwl_o rfl rfl (OpOK.eqv (A_Q rfl rfl) rfl) ?_
 refine dwl_o rfl rfl (A_J rfl) ?_
 refine dwl_nil ?_
 refine ent_storeBS (k:=0) sizeOf107 rfl rfl rfl (AllOne.mem ⟨(A_F _),A_c,trivial⟩) rfl rfl ?_
 show Ent _ ⟨_,[_,_,_]⟩ _
 refine emm rfl ?_
 refine enk K5 ?_
 refine esr rfl fun _ K6=>?_
 refine A_A rfl (A_B runUnderlying27 rfl sizeOf24 (by decide) rfl) ?_
 refine A_A rfl (A_P (k:=2) ti24 rfl rfl rfl) ?_
 refine A_A rfl (A_P (k:=0) ti107 rfl rfl rfl) ?_
 refine emm rfl ?_
 refine A_A rfl (ok_callA (of_ok c.F (kerM c.F c.m) hk.fld.1) ⟨arg_a rfl (cv_id sub_refl),arg_a rfl (cv_id sub_refl),arg_a rfl (A_a ‹_›),trivial⟩) ?_
 refine A_A rfl (A_Q rfl rfl) ?_
 refine A_A rfl (A_Q rfl rfl) ?_
 refine ent_storeBS (k:=1) sizeOf27 rfl rfl rfl (AllOne.mem ⟨(A_F _),(A_F _),A_c,(A_F _),A_c,trivial⟩) rfl rfl ?_
 show Ent _ ⟨_,[_,_,_]⟩ _
 refine emm rfl ?_
 refine enk K6 ?_
 refine A_R ?_
 exact retR2 (.inr rfl) results82 (resr_cell (k:=1) ti27 rfl rfl rfl (cv_agg ⟨A_a rfl,A_a rfl,cv_sl sub_x rfl,A_a (by rw [hkm];rfl),cv_sl sub_x (by rw [hkm]),trivial⟩)) (A_H (A_T rfl (A_a rfl)))

theorem rParity_ok (c:Cod) (hk:COk c):Ctr Tryz.prog 62 [aCod c] (aSl 1 false aInts ((dua c).Gen)):=by
 have hn1:=hk.n1
 have hn64:=hk.n64
 have hln:=hk.len
 have hqb:=hk.fld.1.bd
 refine A_p Tryz.call62 func62 rfl rfl ?_
 intro w O
 refine A_Y 0 2 rfl rfl (fun hlen0_2=>?_)
 refine A_Y 0 4 rfl rfl (fun hlen0_4=>?_)
 refine esr rfl fun _ K1=>?_
 refine A_h rfl rfl (AllOne.mem ⟨(A_F _),(A_F _),A_c,(A_F _),A_c,trivial⟩) (fun b1_1=>?_)
 refine emm rfl ?_
 refine enk K1 ?_
 refine esr rfl fun _ K2=>?_
 refine A_A rfl (A_B runUnderlying27 rfl sizeOf24 (by decide) rfl) ?_
 refine A_A rfl (A_P (k:=0) ti24 rfl rfl rfl) ?_
 refine A_A rfl (A_B runUnderlying27 rfl sizeOf25 (by decide) rfl) ?_
 refine A_A rfl (A_L (k:=0) isAgg25 rfl rfl rfl) ?_
 refine A_A rfl (A_B runUnderlying27 rfl sizeOf3 (by decide) rfl) ?_
 refine A_A rfl (A_L (k:=0) isAgg3 rfl rfl rfl) ?_
 refine A_A rfl (A_S (rNull_ok c.F c.Gen c.N c.N.toNat hk.fld hk.good (by omega) (by omega) (by omega) (by omega)) rfl) ?_
 refine emm rfl ?_
 refine enk K2 ?_
 refine A_R ?_
 exact retR1 (.inr rfl) results62 (A_H (A_T rfl (cv_sl sub_x rfl)))

theorem rCountN_ok (f:Fld) (n:Int) (hS:Shape f) (h0n:0<=n) (h1n:n<=64):Ctr Tryz.prog 57 [aFld f,aInt n] (aTup [aInt (expF f.q n 65536),aInt (expE f.q n 65536)]):=by
 have hqb:=hS.bd
 refine A_p Tryz.call57 func57 rfl rfl ?_
 intro w O
 refine A_Y 0 2 rfl rfl (fun hlen0_2=>?_)
 refine esr rfl fun _ K1=>?_
 refine A_h rfl rfl (AllOne.mem ⟨(A_F _),(A_F _),A_c,trivial⟩) (fun b2_1=>?_)
 refine emm rfl ?_
 refine enk K1 ?_
 refine A_C fun _ K2=>?_
 refine A_C fun _ K3=>?_
 refine ent_cut (⟨[(1,aInt n),(2,aEx (.pointer (some ⟨b2_1,0,none⟩))),(14,aBool (decide ((n<0)\/(64<n))))],[oBox b2_1 24 [aInt f.P,aInt f.M,aSl 1 false aInt f.mod]]⟩) ?_ ?_
 ·refine A_D ?_
  refine emm rfl ?_
  refine A_A rfl (A_o rfl rfl) ?_
  refine emm rfl ?_
  refine A_v rfl rfl rfl rfl (fun hg11=>?_) (fun hg11=>?_)
  ·refine emm rfl ?_
   refine A_M rfl rfl rfl rfl (decide_eq_false hg11) ?_
   refine A_A rfl (ok_gtr rfl rfl) ?_
   refine A_A rfl (A_r rfl (decide_eq_false hg11) rfl) ?_
   refine A_O ?_
   exact A_I ⟨rfl,rfl,A_Z (dq_Q ((or_iff_right hg11).trans Iff.rfl)),trivial⟩ rfl
  refine A_G rfl rfl rfl rfl (decide_eq_true hg11) ?_
  refine A_A rfl (A_l rfl (decide_eq_true hg11) rfl) ?_
  refine A_O ?_
  exact A_I ⟨rfl,rfl,A_Z (dq_T rfl (Or.inl hg11)),trivial⟩ rfl
 refine A_s K3 ?_
 refine A_E rfl (fun h14=>?_) (fun h14=>?_)
 ·omega
 refine esp K2 ?_
 refine esr rfl fun _ K4=>?_
 refine A_A rfl (A_P (k:=0) ti24 rfl rfl rfl) ?_
 refine A_A rfl (A_S (rOrder_ok f) rfl) ?_
 refine emm rfl ?_
 refine enk K4 ?_
 refine esk rfl ?_
 refine A_C fun _ K6=>?_
 refine esk rfl ?_
 refine A_K ?_
 refine A_g (fun (j:Int)=>(⟨[(1,aInt n),(6,aInt f.q),(7,aInt (f.q^j.toNat)),(8,aInt j)],[oBox b2_1 24 [aInt f.P,aInt f.M,aSl 1 false aInt f.mod]]⟩:St)) (fun (j:Int)=>(0<=j)/\(j<=n)/\(f.q^j.toNat<=65536)) (fun (j:Int)=>(n-j).toNat) 0 ⟨(by omega),‹_›,(by simp)⟩ (A_I ⟨rfl,rfl,A_W (A_i (show 1=f.q^(0:Int).toNat by simp)),A_W (A_i (show 0=(0:Int) by rfl)),trivial⟩ rfl) ?_
 rintro j ⟨h0,h1,h2⟩
 show Ent _ ⟨_,[_]⟩ _
 refine A_C fun _ K8=>?_
 refine esr rfl fun _ K9=>?_
 refine A_A rfl (A_o rfl rfl) ?_
 refine enk K9 ?_
 refine A_E rfl (fun h19=>?_) (fun h19=>?_)
 ·have hs:=pow_succ_toNat f.q j h0
  have hp:=pow_pos_of f.q (by omega) j.toNat
  have hpk:=pow_mono_of f.q (by omega) (show (j+1).toNat<=n.toNat by omega)
  have hmm:0<=f.q^j.toNat*f.q/\f.q^j.toNat*f.q<=65536*256:=⟨Int.mul_nonneg (by omega) (by omega),Int.mul_le_mul (by omega) (by omega) (by omega) (by omega)⟩
  refine esp K8 ?_
  refine A_C fun _ K10=>?_
  refine A_K ?_
  refine A_C fun _ K11=>?_
  refine esr rfl fun _ K12=>?_
  refine A_A rfl (ok_quo rfl rfl (by omega) (by omega) (by omega)) ?_
  refine A_A rfl (ok_gtr rfl rfl) ?_
  refine enk K12 ?_
  refine A_E rfl (fun h25=>?_) (fun h25=>?_)
  ·have hlt:65536<f.q^j.toNat*f.q:=(Int.ediv_lt_iff_lt_mul (by omega)).1 h25
   refine esk rfl ?_
   refine A_R ?_
   exact retR2 (.inr rfl) results57 (A_H (A_T rfl (A_a (by unfold expF;rw [if_neg (by omega)])))) (A_H (A_T rfl (A_a (by unfold expE;rw [if_neg (by omega)]))))
  have hle:f.q^j.toNat*f.q<=65536:=(Int.le_ediv_iff_mul_le (by omega)).1 (by omega)
  refine esp K11 ?_
  refine A_D ?_
  refine emm rfl ?_
  refine A_A rfl (ok_mul rfl rfl (by omega) (by omega)) ?_
  refine emm rfl ?_
  refine enk K10 ?_
  refine A_D ?_
  refine emm rfl ?_
  refine A_A rfl (A_m rfl rfl (by omega) (by omega)) ?_
  refine emm rfl ?_
  refine A_O ?_
  refine A_X (s:=(j)) (j+1) ⟨(by omega),‹_›,(by rw [hs];exact hle)⟩ (by omega) (A_I ⟨rfl,rfl,A_W (A_i (show (f.q^j.toNat)*f.q=f.q^(j+1).toNat by rw [hs])),rfl,trivial⟩ rfl)
 refine A_e ?_
 refine A_s K6 ?_
 refine esk rfl ?_
 refine A_R ?_
 exact retR2 (.inr rfl) results57 (A_H (A_T rfl (A_a (by unfold expF;rw [show n=j by omega,if_pos h2])))) (A_H (A_T rfl (A_a (by unfold expE;rw [show n=j by omega,if_pos h2]))))

theorem Order_ok (f:Fld)  : Ctr Tryz.prog 84 [aGF f] (aInt f.q):=by
 refine A_p Tryz.call84 func84 rfl rfl ?_
 intro w O
 refine ent_lenP 0 4 rfl rfl (fun hlen0_4=>?_)
 refine ent_lenP 0 5 rfl rfl (fun hlen0_5=>?_)
 refine esk rfl ?_
 refine esr rfl fun _ K2=>?_
 refine A_A rfl (A_q rfl) ?_
 refine A_A rfl (A_f runUnderlying116 rfl sizeOf3 rfl rfl) ?_
 refine A_A rfl (A_V ti3 rfl) ?_
 refine emm rfl ?_
 refine enk K2 ?_
 refine A_R ?_
 exact retR1 (.inr rfl) results84 (A_H (A_T rfl (A_a rfl)))

theorem Dual_no (c:Cod) (h:codE c≠0):Ctr Tryz.prog 82 [aCod c] (aTup [aCod Cod.no,aInt (codE c)]):=by
 refine A_p Tryz.call82 func82 rfl rfl ?_
 intro w O
 refine A_Y 0 2 rfl rfl (fun hlen0_2=>?_)
 refine A_Y 0 4 rfl rfl (fun hlen0_4=>?_)
 refine esr rfl fun _ K1=>?_
 refine A_h rfl rfl (AllOne.mem ⟨(A_F _),(A_F _),A_c,(A_F _),A_c,trivial⟩) (fun b1_1=>?_)
 refine ent_alloc (z:=.agg #[.int .i64 0,.int .i64 0,.slice none 0 0,.int .i64 0,.slice none 0 0]) [aInt 0,aInt 0,aEx (.slice none 0 0),aInt 0,aEx (.slice none 0 0)] rfl zv27 rfl zc27 (fun b2_2=>?_)
 refine emm rfl ?_
 refine enk K1 ?_
 refine A_C fun _ K2=>?_
 refine esr rfl fun _ K3=>?_
 refine A_A rfl (A_P (k:=1) ti27 rfl rfl rfl) ?_
 refine A_A rfl (A_S (cCheck_ok c) rfl) ?_
 refine emm rfl ?_
 refine enk K3 ?_
 refine esr rfl fun _ K4=>?_
 refine A_A rfl (A_y rfl rfl) ?_
 refine enk K4 ?_
 refine A_E rfl (fun h10=>?_) (fun h10=>?_)
 ·refine esr rfl fun _ K5=>?_
  refine A_A rfl (ok_build st27 (As:=[aInt 0,aInt 0,aEx (.slice none 0 0),aInt 0,aEx (.slice none 0 0)]) z27 (rfl)) ?_
  refine emm rfl ?_
  refine ent_storeBS (k:=0) sizeOf27 rfl rfl rfl (AllOne.mem ⟨(A_F _),(A_F _),(one_ex rfl),(A_F _),(one_ex rfl),trivial⟩) rfl rfl ?_
  show Ent _ ⟨_,[_,_]⟩ _
  refine emm rfl ?_
  refine enk K5 ?_
  refine A_R ?_
  exact retR2 (.inr rfl) results82 (resr_cell (k:=0) ti27 rfl rfl rfl (cv_agg ⟨A_a rfl,A_a rfl,cv_nil (fun _=>rfl) rfl,A_a rfl,cv_nil (fun _=>rfl) rfl,trivial⟩)) (A_H (A_T rfl (A_a rfl)))
 exact absurd (Classical.not_not.1 h10) h

theorem listC_ok (f:Fld) (x:Int)  : Ctr Tryz.prog 124 [aInt x,aAt 1 false (aGF f)] (aBool (decide (¬(0<=x/\x<f.q)))):=by
 refine A_p Tryz.call124 func124 rfl rfl ?_
 intro w O
 refine esk rfl ?_
 refine esr rfl fun _ K2=>?_
 refine A_A rfl (A_V ti68 rfl) ?_
 refine emm rfl ?_
 refine A_A rfl (A_S (Is_ok f x) rfl) ?_
 refine A_A rfl (ok_notD rfl) ?_
 refine emm rfl ?_
 refine enk K2 ?_
 refine A_R ?_
 exact retR1 (.inr rfl) results124 (A_H (A_T rfl (cv_bool rfl)))

theorem IndexFunc_ok (f:Fld) (l:List Int)  : Ctr Tryz.prog 136 [aSl 1 false aInt l,aClo 124 [aAt 1 false (aGF f)]] (aInt (idxF f l 0)):=by
 refine A_p Tryz.call136 func136 rfl rfl ?_
 intro w O
 refine A_x 0 rfl (fun hlen0=>?_)
 refine esk rfl ?_
 refine A_C fun _ K2=>?_
 refine esr rfl fun _ K3=>?_
 refine A_A rfl (A_z rfl runUnderlying22 rfl) ?_
 refine emm rfl ?_
 refine enk K3 ?_
 refine A_K ?_
 refine A_g (fun (i:Int)=>(⟨[(0,aSl 1 false aInt l),(1,aClo 124 [aAt 1 false (aGF f)]),(7,aInt (↑l.length:Int)),(8,aInt i)],[]⟩:St)) (fun (i:Int)=>(0<=i)/\(i<=l.length)/\(idxF f l 0=idxF f (l.drop i.toNat) i)) (fun (i:Int)=>(l.length-i).toNat) 0 ⟨(by omega),(by omega),rfl⟩ (A_I ⟨rfl,rfl,rfl,A_W (A_i (show 0=(0:Int) by rfl)),trivial⟩ rfl) ?_
 rintro i ⟨h0,h1,hd⟩
 show Ent _ ⟨_,[]⟩ _
 refine esr rfl fun _ K4=>?_
 refine A_A rfl (A_o rfl rfl) ?_
 refine enk K4 ?_
 refine A_C fun _ K5=>?_
 refine A_E rfl (fun h9=>?_) (fun h9=>?_)
 ·refine esp K5 ?_
  refine A_C fun _ K6=>?_
  refine A_K ?_
  refine esk rfl ?_
  refine esr rfl fun _ K8=>?_
  refine A_A rfl (A_d 0 sl22 rfl rfl (by omega) (by omega)) ?_
  refine A_A rfl (A_V ti3 rfl) ?_
  refine A_A rfl (ok_callFV (As:=[aInt (ix 0 l i)]) (Bs:=[aAt 1 false (aGF f)]) (listC_ok f (ix 0 l i)) rfl ⟨arg_a rfl (cv_id sub_refl),trivial⟩) ?_
  refine enk K8 ?_
  refine A_E rfl (fun h16=>?_) (fun h16=>?_)
  ·refine esk rfl ?_
   refine A_R ?_
   exact retR1 (.inr rfl) results136 (A_H (A_T rfl (A_a (by rw [hd];exact (idx_hit h0 (by omega) h16).symm))))
  refine esp K6 ?_
  refine A_D ?_
  refine A_A rfl (A_m rfl rfl (by omega) (by omega)) ?_
  refine emm rfl ?_
  refine A_O ?_
  refine A_X (s:=(i)) (i+1) ⟨(by omega),‹_›,(hd.trans (idx_next h0 (by omega) (Classical.not_not.1 h16)))⟩ (by omega) (A_I ⟨rfl,rfl,rfl,rfl,trivial⟩ rfl)
 refine A_e ?_
 refine A_s K2 ?_
 refine esk rfl ?_
 refine A_R ?_
 exact retR1 (.inr rfl) results136 (A_H (A_T rfl (A_a (by rw [hd];exact (idx_end (by omega)).symm))))

theorem ContainsFunc_ok (f:Fld) (l:List Int)  : Ctr Tryz.prog 123 [aSl 1 false aInt l,aClo 124 [aAt 1 false (aGF f)]] (aBool (decide (0<=idxF f l 0))):=by
 refine A_p Tryz.call123 func123 rfl rfl ?_
 intro w O
 refine A_x 0 rfl (fun hlen0=>?_)
 refine esk rfl ?_
 refine esr rfl fun _ K2=>?_
 refine A_A rfl (A_S (IndexFunc_ok f l) rfl) ?_
 refine A_A rfl (ok_geq rfl rfl) ?_
 refine emm rfl ?_
 refine enk K2 ?_
 refine A_R ?_
 exact retR1 (.inr rfl) results123 (A_H (A_T rfl (cv_bool rfl)))

theorem cList_ok (f:Fld) (l:List Int) (n:Int) (hF:FOk f):Ctr Tryz.prog 109 [aFld f,aSl 1 false aInt l,aInt n] (aInt (lisE f l n)):=by
 refine A_p Tryz.call109 func109 rfl rfl ?_
 intro w O
 refine A_Y 0 2 rfl rfl (fun hlen0_2=>?_)
 refine A_x 1 rfl (fun hlen1=>?_)
 refine esr rfl fun _ K1=>?_
 refine A_h rfl rfl (AllOne.mem ⟨(A_F _),(A_F _),A_c,trivial⟩) (fun b3_1=>?_)
 refine emm rfl ?_
 refine enk K1 ?_
 refine A_C fun _ K2=>?_
 refine esr rfl fun _ K3=>?_
 refine A_A rfl (A_z rfl runUnderlying22 rfl) ?_
 refine emm rfl ?_
 refine A_A rfl (A_y rfl rfl) ?_
 refine enk K3 ?_
 refine A_E rfl (fun h12=>?_) (fun h12=>?_)
 ·refine esk rfl ?_
  refine A_R ?_
  exact retR1 (.inr rfl) results109 (A_H (A_T rfl (A_a (by unfold lisE;rw [if_pos h12]))))
 refine esp K2 ?_
 refine esr rfl fun _ K5=>?_
 refine A_A rfl (A_P (k:=0) ti24 rfl rfl rfl) ?_
 refine A_A rfl (A_S (CtrF.ctr (New_ok f hF)) rfl) ?_
 refine emm rfl ?_
 refine A_A rfl (A_Q rfl rfl) ?_
 refine A_A rfl (A_Q rfl rfl) ?_
 refine ent_alloc (z:=(.pointer none)) [aEx (.pointer none)] rfl zv68 rfl zc68 (fun b7_2=>?_)
 refine ent_storeB (k:=0) sizeOf68 rfl rfl rfl one_at rfl ?_
 refine emm rfl ?_
 refine enk K5 ?_
 refine A_C fun _ K6=>?_
 refine esr rfl fun _ K7=>?_
 refine A_A rfl (A_y rfl rfl) ?_
 refine enk K7 ?_
 refine ent_condFP rfl (by decide) ?_
 refine esp K6 ?_
 refine A_C fun _ K8=>?_
 refine esr rfl fun _ K9=>?_
 refine A_A rfl (ok_makeFunc (us:=[.pointer (some ⟨b7_2,0,none⟩)]) rfl) ?_
 refine A_A rfl (ok_callP [0] (by exact pl_ex) (ContainsFunc_ok f l) ⟨arg_a rfl (cv_id (sub_lent _)),arg_a rfl (cv_clo ⟨cv_box1 (k:=0) (off_lent rfl (by decide)) (cv_id (sub_lent _)),trivial⟩),trivial⟩) ?_
 refine enk K9 ?_
 refine A_E rfl (fun h23=>?_) (fun h23=>?_)
 ·refine esk rfl ?_
  refine A_R ?_
  exact retR1 (.inr rfl) results109 (A_H (A_T rfl (A_a (by unfold lisE;rw [if_neg h12];unfold entErr;rw [if_pos ((idx_out (Int.le_refl 0)).1 h23)]))))
 refine esp K8 ?_
 refine esk rfl ?_
 refine A_R ?_
 exact retR1 (.inr rfl) results109 (A_H (A_T rfl (A_a (by unfold lisE;rw [if_neg h12];unfold entErr;rw [if_neg (fun h=>h23 ((idx_out (Int.le_refl 0)).2 h))]))))

theorem cWord_ok (c:Cod) (y:List Int)  : Ctr Tryz.prog 91 [aCod c,aSl 1 false aInt y] (aInt (wrdE c y)):=by
 refine A_p Tryz.call91 func91 rfl rfl ?_
 intro w O
 refine A_Y 0 2 rfl rfl (fun hlen0_2=>?_)
 refine A_Y 0 4 rfl rfl (fun hlen0_4=>?_)
 refine A_x 1 rfl (fun hlen1=>?_)
 refine esr rfl fun _ K1=>?_
 refine A_h rfl rfl (AllOne.mem ⟨(A_F _),(A_F _),A_c,(A_F _),A_c,trivial⟩) (fun b2_1=>?_)
 refine emm rfl ?_
 refine enk K1 ?_
 refine A_C fun _ K2=>?_
 refine esr rfl fun _ K3=>?_
 refine A_A rfl (A_P (k:=0) ti27 rfl rfl rfl) ?_
 refine A_A rfl (A_S (cCheck_ok c) rfl) ?_
 refine emm rfl ?_
 refine enk K3 ?_
 refine esr rfl fun _ K4=>?_
 refine A_A rfl (A_y rfl rfl) ?_
 refine enk K4 ?_
 refine A_E rfl (fun h9=>?_) (fun h9=>?_)
 ·refine esk rfl ?_
  refine A_R ?_
  exact retR1 (.inr rfl) results91 (A_H (A_T rfl (A_a (by exact (wrdE_code h9).symm))))
 have hc0:=Classical.not_not.1 h9
 have hk:=codE_zero.1 hc0
 refine esp K2 ?_
 refine esr rfl fun _ K6=>?_
 refine A_A rfl (A_B runUnderlying27 rfl sizeOf24 (by decide) rfl) ?_
 refine A_A rfl (A_P (k:=0) ti24 rfl rfl rfl) ?_
 refine emm rfl ?_
 refine A_A rfl (A_B runUnderlying27 rfl sizeOf3 (by decide) rfl) ?_
 refine A_A rfl (A_L (k:=0) isAgg3 rfl rfl rfl) ?_
 refine A_A rfl (A_S (cList_ok c.F y c.N hk.fld) rfl) ?_
 refine emm rfl ?_
 refine enk K6 ?_
 refine A_R ?_
 exact retR1 (.inr rfl) results91 (A_H (A_T rfl (A_a (by unfold wrdE;rw [if_pos hc0]))))
end Go.Proofs.YtcilbmggiahciaaGreat

