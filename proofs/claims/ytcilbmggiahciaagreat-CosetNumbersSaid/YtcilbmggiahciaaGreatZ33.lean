/-
  Walks of functions of the program and the reference.
-/
import Derived.Test.YtcilbmggiahciaaGreatZ32
open Go Go.Cw
namespace Go.Proofs.YtcilbmggiahciaaGreat
open Tryz
set_option maxRecDepth 100000
set_option linter.unusedVariables false
set_option linter.unusedSimpArgs false

noncomputable abbrev aSp (c:Cod):AV:=aAt 6 true (aAgg [aGF c.F,aInt c.F.q,aInt c.N,aInt ((dua c).Gen.length:Int),aInt (c.F.q^(dua c).Gen.length),aRows (turnL (dua c).Gen c.N)])

theorem mKernelC_ok (c:Cod) (hk:COk c):Ctr Tryz.prog 92 [aFld c.F,aMat c.m] (aTup [aAgg [aInt c.N,aSl 1 false aInts ((dua c).Gen)],aInt 0]):=by
 have h:=mKernel_ok c.F c.m
 rw [kerM_code hk,hk.mat] at h
 exact h

theorem cSyn_ok (c:Cod) (y:List Int)  : Ctr Tryz.prog 73 [aCod c,aSl 1 false aInt y] (aTup [aSl 1 false aInt (synE c y),aInt (wrdE c y)]):=by
 refine A_p Tryz.call73 func73 rfl rfl ?_
 intro w O
 refine A_Y 0 2 rfl rfl (fun hlen0_2=>?_)
 refine A_Y 0 4 rfl rfl (fun hlen0_4=>?_)
 refine A_x 1 rfl (fun hlen1=>?_)
 refine esr rfl fun _ K1=>?_
 refine A_h rfl rfl (AllOne.mem ⟨(A_F _),(A_F _),A_c,(A_F _),A_c,trivial⟩) (fun b2_1=>?_)
 refine emm rfl ?_
 refine enk K1 ?_
 refine A_C fun _ K2=>?_
 refine esr rfl fun _ K3=>?_
 refine A_A rfl (A_P (k:=0) ti27 rfl rfl rfl) ?_
 refine emm rfl ?_
 refine A_A rfl (A_S (cWord_ok c y) rfl) ?_
 refine emm rfl ?_
 refine enk K3 ?_
 refine esr rfl fun _ K4=>?_
 refine A_A rfl (A_y rfl rfl) ?_
 refine enk K4 ?_
 refine A_E rfl (fun h17=>?_) (fun h17=>?_)
 ·refine esk rfl ?_
  refine A_R ?_
  exact retR2 (.inr rfl) results73 (A_H (A_T rfl (cv_nil (fun _=>rfl) (by unfold synE;rw [if_neg h17])))) (A_H (A_T rfl (A_a rfl)))
 have hw0:=Classical.not_not.1 h17
 have hk:=(wrdE_zero.1 hw0).1
 have hn1:=hk.n1
 have hn64:=hk.n64
 have hln:=hk.len
 have hqb:=hk.fld.1.bd
 have hdd:=hk.dim_dua
 refine esp K2 ?_
 refine A_C fun _ K6=>?_
 refine ent_drawB2 (T:=107) (z:=.agg #[.int .i64 0,.slice none 0 0]) (As:=[aInt 0,aEx (.slice none 0 0)]) 9 [7] 8 7 [(20,aEx (.pointer (some ⟨b2_1,0,none⟩))),(21,aAgg [aInt c.F.P,aInt c.F.M,aSl 1 false aInt c.F.mod]),(22,aAgg [aInt c.F.P,aInt c.F.M,aSl 1 false aInt c.F.mod,aInt c.N,aSl 1 false aInts c.Gen]),(23,aMat c.m),(24,aTup [aAgg [aInt c.N,aSl 1 false aInts ((dua c).Gen)],aInt 0]),(19,aTup [aAgg [aInt c.N,aSl 1 false aInts ((dua c).Gen)],aInt 0]),(25,aAgg [aInt c.N,aSl 1 false aInts ((dua c).Gen)]),(26,aInt 0),(7,aBoxF w.heap.size 107 [aInt 0,aEx (.slice none 0 0)])] mixed (by kernel_rfl) (by kernel_rfl) (by kernel_rfl) (by kernel_rfl) (by kernel_rfl) (fun _ _ _ _ _ h=>h) rfl (by kernel_rfl) (by kernel_rfl) (fun _=>by kernel_rfl) (fun _=>by kernel_rfl) (fun _=>by kernel_rfl) zv107 rfl zc107 (by kernel_rfl) ?_ (fun bb_2=>?_)
 ·refine dwl_o rfl rfl (OpOK.eqv (A_B runUnderlying27 rfl sizeOf24 (by decide) rfl) rfl) ?_
  refine dwl_o rfl rfl (OpOK.eqv (A_P (k:=0) ti24 rfl rfl rfl) rfl) ?_
  refine dwl_o rfl rfl (OpOK.eqv (A_P (k:=0) ti27 rfl rfl rfl) rfl) ?_
  refine dwl_o rfl rfl (OpOK.eqv (A_S (gen_ok c) rfl) rfl) ?_
  refine dwl_o rfl rfl (OpOK.eqv (A_S (mKernelC_ok c hk) rfl) rfl) ?_
  refine dwl_o rfl rfl (OpOK.eqv (A_J rfl) rfl) ?_
  refine dwl_o rfl rfl (OpOK.eqv (A_Q rfl rfl) rfl) ?_
  refine dwl_o rfl rfl (OpOK.eqv (A_Q rfl rfl) rfl) ?_
  refine dwl_o rfl rfl (OpOK.eqv (ok_allocF (z:=.agg #[.int .i64 0,.slice none 0 0]) [aInt 0,aEx (.slice none 0 0)] zv107 rfl zc107) rfl) ?_
  exact dwl_nil trivial
 refine dwl_o rfl rfl (OpOK.eqv (A_B runUnderlying27 rfl sizeOf24 (by decide) rfl) rfl) ?_
 refine dwl_o rfl rfl (OpOK.eqv (A_P (k:=1) ti24 rfl rfl rfl) rfl) ?_
 refine dwl_o rfl rfl (OpOK.eqv (A_P (k:=1) ti27 rfl rfl rfl) rfl) ?_
 refine dwl_o rfl rfl (OpOK.eqv (A_S (gen_ok c) rfl) rfl) ?_
 refine dwl_o rfl rfl (OpOK.eqv (A_S (mKernelC_ok c hk) rfl) rfl) ?_
 refine dwl_o rfl rfl (OpOK.eqv (A_J rfl) rfl) ?_
 refine dwl_o rfl rfl (OpOK.eqv (A_Q rfl rfl) rfl) ?_
 refine dwl_o rfl rfl (OpOK.eqv (A_Q rfl rfl) rfl) ?_
 refine dwl_o rfl rfl (A_J rfl) ?_
 refine dwl_nil ?_
 refine ent_storeBS (k:=0) sizeOf107 rfl rfl rfl (AllOne.mem ⟨(A_F _),A_c,trivial⟩) rfl rfl ?_
 show Ent _ ⟨_,[_,_]⟩ _
 refine emm rfl ?_
 refine enk K6 ?_
 refine A_C fun _ K7=>?_
 refine esr rfl fun _ K8=>?_
 refine A_A rfl (A_y rfl rfl) ?_
 refine enk K8 ?_
 refine ent_condFP rfl (by decide) ?_
 refine esp K7 ?_
 refine esr rfl fun _ K9=>?_
 refine A_A rfl (A_B runUnderlying27 rfl sizeOf24 (by decide) rfl) ?_
 refine A_A rfl (A_P (k:=1) ti24 rfl rfl rfl) ?_
 refine A_A rfl (A_S (CtrF.ctr (New_ok c.F hk.fld)) rfl) ?_
 refine emm rfl ?_
 refine A_A rfl (A_Q rfl rfl) ?_
 refine A_A rfl (A_Q rfl rfl) ?_
 refine emm rfl ?_
 refine enk K9 ?_
 refine A_C fun _ K10=>?_
 refine esr rfl fun _ K11=>?_
 refine A_A rfl (A_y rfl rfl) ?_
 refine enk K11 ?_
 refine ent_condFP rfl (by decide) ?_
 refine esp K10 ?_
 refine esk rfl ?_
 refine A_C fun _ K13=>?_
 refine esr rfl fun _ K14=>?_
 refine A_A rfl (A_B runUnderlying107 rfl sizeOf25 (by decide) rfl) ?_
 refine A_A rfl (A_L (k:=0) isAgg25 rfl rfl rfl) ?_
 refine A_A rfl (A_z rfl runUnderlying25 rfl) ?_
 refine emm rfl ?_
 refine enk K14 ?_
 refine A_K ?_
 refine ent_open 3 1 false aInt (fun _=>rfl) ?_
 refine A_g (fun (ss:Int×Option Nat×Nat)=>match ss with | (i,rr4,cc4)=>(⟨[(1,aSl 1 false aInt y),(9,aGF c.F),(10,aEx (vec rr4 ((mapR (fun z=>dotF c.F (ix [] (dua c).Gen z) y) i).length) cc4)),(40,aSl 1 false aInts ((dua c).Gen)),(41,aInt (↑((dua c).Gen).length:Int)),(42,aInt i)],[oVec rr4 cc4 3 1 false aInt (mapR (fun z=>dotF c.F (ix [] (dua c).Gen z) y) i),oBox bb_2 107 [aInt c.N,aSl 1 false aInts ((dua c).Gen)],oBox b2_1 27 [aInt c.F.P,aInt c.F.M,aSl 1 false aInt c.F.mod,aInt c.N,aSl 1 false aInts c.Gen]]⟩:St)) (fun (ss:Int×Option Nat×Nat)=>match ss with | (i,rr4,cc4)=>(0<=i)/\(i<=(dua c).Gen.length)) (fun (ss:Int×Option Nat×Nat)=>match ss with | (i,rr4,cc4)=>((dua c).Gen.length-i).toNat) (0,none,0) ⟨(by omega),(by omega)⟩ (A_I ⟨rfl,rfl,A_W ((show aEx (vec none ([]:List _).length 0)=aEx (vec none ((mapR (fun z=>dotF c.F (ix [] (dua c).Gen z) y) (0:Int)).length) 0) from av_vec (congrArg List.length (show mapR (fun z=>dotF c.F (ix [] (dua c).Gen z) y) (0:Int) = [] by rfl).symm))),rfl,rfl,A_W (A_i (show 0=(0:Int) by rfl)),trivial⟩ (A_N (A_n (show mapR (fun z=>dotF c.F (ix [] (dua c).Gen z) y) (0:Int) = [] by rfl)) (rfl))) ?_
 rintro ⟨i,rr4,cc4⟩ ⟨h0,h1⟩
 show Ent _ ⟨_,[_,_,_]⟩ _
 have lmr:=A_j (fun z=>dotF c.F (ix [] (dua c).Gen z) y) i
 refine esr rfl fun _ K15=>?_
 refine A_A rfl (A_o rfl rfl) ?_
 refine enk K15 ?_
 refine A_C fun _ K16=>?_
 refine A_E rfl (fun h43=>?_) (fun h43=>?_)
 ·refine esp K16 ?_
  refine A_C fun _ K17=>?_
  refine A_K ?_
  refine esr rfl fun _ K18=>?_
  refine A_A rfl (A_d [] sl25 rfl rfl (by omega) (by omega)) ?_
  refine A_A rfl (A_V ti22 rfl) ?_
  refine emm rfl ?_
  refine enk K18 ?_
  refine A_D ?_
  refine emm rfl ?_
  refine A_A rfl (A_S (Dot_ok c.F (ix [] ((dua c).Gen) i) y hk.fld) rfl) ?_
  refine ent_appendL (k:=0) (enc:=aInt) (y:=dotF c.F (ix [] ((dua c).Gen) i) y) rfl rfl vt22 rfl rfl rfl rfl ((A_u (A_F _))) (by omega) (by omega) (by decide) (fun b52_5 c52_5=>?_)
  refine emm rfl ?_
  refine enk K17 ?_
  refine A_D ?_
  refine A_A rfl (A_m rfl rfl (by omega) (by omega)) ?_
  refine emm rfl ?_
  refine A_O ?_
  refine A_X (s:=(i,rr4,cc4)) (i+1,(some b52_5),c52_5) ⟨(by omega),‹_›⟩ (by dsimp only;omega) (A_I ⟨rfl,rfl,A_W (av_vec (congrArg List.length (show mapR (fun z=>dotF c.F (ix [] (dua c).Gen z) y) (i+1)=(mapR (fun z=>dotF c.F (ix [] (dua c).Gen z) y) i)++[dotF c.F (ix [] ((dua c).Gen) i) y] by exact mapR_succ _ h0).symm)),rfl,rfl,rfl,trivial⟩ (A_N (A_n (show mapR (fun z=>dotF c.F (ix [] (dua c).Gen z) y) (i+1)=(mapR (fun z=>dotF c.F (ix [] (dua c).Gen z) y) i)++[dotF c.F (ix [] ((dua c).Gen) i) y] by exact mapR_succ _ h0)) (rfl)))
 refine A_e ?_
 refine A_s K13 ?_
 refine esk rfl ?_
 refine A_R ?_
 exact retR2 (.inr rfl) results73 (A_H (A_T rfl (cv_vec (k:=0) (off_x rfl) rfl (by unfold synE synL;rw [if_pos hw0];congr 1;omega)))) (A_H (A_T rfl (A_a (by exact hw0.symm))))

theorem rNumber_ok (f:Fld) (l:List Int) (hS:Shape f) (ho:¬outF f l) (hx:f.q^l.length<=65536):Ctr Tryz.prog 37 [aFld f,aSl 1 false aInt l] (aInt (valD f.q l)):=by
 have hqb:=hS.bd
 refine A_p Tryz.call37 func37 rfl rfl ?_
 intro w O
 refine A_Y 0 2 rfl rfl (fun hlen0_2=>?_)
 refine A_x 1 rfl (fun hlen1=>?_)
 refine esr rfl fun _ K1=>?_
 refine A_h rfl rfl (AllOne.mem ⟨(A_F _),(A_F _),A_c,trivial⟩) (fun b2_1=>?_)
 refine emm rfl ?_
 refine enk K1 ?_
 refine esk rfl ?_
 refine A_C fun _ K3=>?_
 refine esk rfl ?_
 refine A_K ?_
 refine A_g (fun (i:Int)=>(⟨[(1,aSl 1 false aInt l),(2,aEx (.pointer (some ⟨b2_1,0,none⟩))),(5,aInt (valT f.q l i)),(6,aInt i)],[oBox b2_1 24 [aInt f.P,aInt f.M,aSl 1 false aInt f.mod]]⟩:St)) (fun (i:Int)=>(0<=i)/\(i<=l.length)) (fun (i:Int)=>(l.length-i).toNat) 0 ⟨(by omega),(by omega)⟩ (A_I ⟨rfl,rfl,A_W (A_i (show 0=valT f.q l (0:Int) by rfl)),A_W (A_i (show 0=(0:Int) by rfl)),trivial⟩ rfl) ?_
 rintro i ⟨h0,h1⟩
 show Ent _ ⟨_,[_]⟩ _
 have hvb:=valT_bd hS ho hx h0 h1
 have hmm:0<=valT f.q l i*f.q/\valT f.q l i*f.q<=65536*256:=⟨Int.mul_nonneg (by omega) (by omega),Int.mul_le_mul (by omega) (by omega) (by omega) (by omega)⟩
 have hib:=ix_ok hS ho i
 refine A_C fun _ K5=>?_
 refine esr rfl fun _ K6=>?_
 refine A_A rfl (A_z rfl runUnderlying22 rfl) ?_
 refine A_A rfl (A_o rfl rfl) ?_
 refine enk K6 ?_
 refine A_E rfl (fun h10=>?_) (fun h10=>?_)
 ·refine esp K5 ?_
  refine A_C fun _ K7=>?_
  refine A_K ?_
  refine A_t 10 mixed (by kernel_rfl) (by kernel_rfl) (by kernel_rfl) ?_
  refine dw_o rfl (A_J rfl) ?_
  refine dw_o rfl (A_P (k:=0) ti24 rfl rfl rfl) ?_
  refine dw_o rfl (A_S (rOrder_ok f) rfl) ?_
  refine dw_o rfl (ok_mul rfl rfl (by omega) (by omega)) ?_
  refine dw_o rfl (A_J rfl) ?_
  refine dw_o rfl (A_J rfl) ?_
  refine dw_o rfl (A_d 0 sl22 rfl rfl (by omega) (by omega)) ?_
  refine dw_o rfl (A_V ti3 rfl) ?_
  refine dw_o rfl (A_m rfl rfl (by omega) (by omega)) ?_
  refine dw_o rfl (ok_assign rfl) ?_
  refine dw_nil ?_
  refine enk K7 ?_
  refine A_D ?_
  refine emm rfl ?_
  refine A_A rfl (A_m rfl rfl (by omega) (by omega)) ?_
  refine emm rfl ?_
  refine A_O ?_
  refine A_X (s:=(i)) (i+1) ⟨(by omega),‹_›⟩ (by omega) (A_I ⟨rfl,rfl,A_W (A_i (show ((valT f.q l i)*f.q)+(ix 0 l i)=valT f.q l (i+1) by exact (valT_step h0 (by omega)).symm)),rfl,trivial⟩ rfl)
 refine A_e ?_
 refine A_s K3 ?_
 refine esk rfl ?_
 refine A_R ?_
 exact retR1 (.inr rfl) results37 (A_H (A_T rfl (A_a (by exact valT_all (l:=l) (i:=i) (by omega)))))

theorem rCount28_ok (c:Cod)  : Ctr Tryz.prog 31 [aCod c] (aTup [aInt (csV c),aInt (csE c)]):=by
 refine A_p Tryz.call31 func31 rfl rfl ?_
 intro w O
 refine A_Y 0 2 rfl rfl (fun hlen0_2=>?_)
 refine A_Y 0 4 rfl rfl (fun hlen0_4=>?_)
 refine esr rfl fun _ K1=>?_
 refine A_h rfl rfl (AllOne.mem ⟨(A_F _),(A_F _),A_c,(A_F _),A_c,trivial⟩) (fun b1_1=>?_)
 refine emm rfl ?_
 refine enk K1 ?_
 refine esr rfl fun _ K2=>?_
 refine A_A rfl (A_P (k:=0) ti27 rfl rfl rfl) ?_
 refine A_A rfl (A_S (rcCheck_ok c) rfl) ?_
 refine emm rfl ?_
 refine enk K2 ?_
 refine A_C fun _ K3=>?_
 refine esr rfl fun _ K4=>?_
 refine A_A rfl (A_y rfl rfl) ?_
 refine enk K4 ?_
 refine A_E rfl (fun h8=>?_) (fun h8=>?_)
 ·have he:=csE_code h8
  refine esk rfl ?_
  refine A_R ?_
  exact retR2 (.inr rfl) results31 (A_H (A_T rfl (A_a (by unfold csV;rw [if_neg (by rw [he];exact h8)])))) (A_H (A_T rfl (A_a (by exact he.symm))))
 have hc0:=Classical.not_not.1 h8
 have hk:=codE_zero.1 hc0
 have hn1:=hk.n1
 have hn64:=hk.n64
 have hln:=hk.len
 have hqb:=hk.fld.1.bd
 have hdd:=hk.dim_dua
 have hdl:=dua_len hk
 refine esp K3 ?_
 refine esr rfl fun _ K6=>?_
 refine A_A rfl (A_B runUnderlying27 rfl sizeOf24 (by decide) rfl) ?_
 refine A_A rfl (A_P (k:=0) ti24 rfl rfl rfl) ?_
 refine A_A rfl (A_B runUnderlying27 rfl sizeOf3 (by decide) rfl) ?_
 refine A_A rfl (A_L (k:=0) isAgg3 rfl rfl rfl) ?_
 refine A_A rfl (A_B runUnderlying27 rfl sizeOf25 (by decide) rfl) ?_
 refine A_A rfl (A_L (k:=0) isAgg25 rfl rfl rfl) ?_
 refine A_A rfl (A_z rfl runUnderlying25 rfl) ?_
 refine A_A rfl (ok_sub rfl rfl (by omega) (by omega)) ?_
 refine A_A rfl (A_S (rCountN_ok c.F (c.N-(↑c.Gen.length:Int)) hk.fld.1 (by omega) (by omega)) rfl) ?_
 refine A_A rfl (A_Q rfl rfl) ?_
 refine A_A rfl (A_Q rfl rfl) ?_
 refine emm rfl ?_
 refine enk K6 ?_
 refine A_R ?_
 exact retR2 (.inr rfl) results31 (A_H (A_T rfl (A_a (by rw [csV_exp hk,<- hdl])))) (A_H (A_T rfl (A_a (by rw [csE_exp hk,<- hdl]))))

end Go.Proofs.YtcilbmggiahciaaGreat

