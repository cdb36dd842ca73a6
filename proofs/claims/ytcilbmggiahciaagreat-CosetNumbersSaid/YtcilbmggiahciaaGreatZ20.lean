/-
  Walks of functions of the program and the reference.
-/
import Derived.Test.YtcilbmggiahciaaGreatZ19
open Go Go.Cw
namespace Go.Proofs.YtcilbmggiahciaaGreat
open Tryz
set_option maxRecDepth 100000
set_option linter.unusedVariables false
set_option linter.unusedSimpArgs false
theorem rCanon_ok (f:Fld) (X:List (List Int)) (cols:Int) (wd:Nat) (hF:FOk f) (hg:good f wd X) (hc0:0<=cols) (hc1:cols<=wd) (hw:wd<=100000) (hx:X.length<=100000):Ctr Tryz.prog 99 [aFld f,aSl 1 false aInts X,aInt cols] (aTup [aSl 1 false aInts (canR (elim f X [] cols.toNat)),aSl 1 false aInt ((elim f X [] cols.toNat).piv)]):=by
 have hpl:=piv_le f X [] cols.toNat
 have hel:=(length_elim f X [] cols.toNat).1
 refine A_p Tryz.call99 func99 rfl rfl ?_
 intro w O
 refine A_Y 0 2 rfl rfl (fun hlen0_2=>?_)
 refine A_x 1 rfl (fun hlen1=>?_)
 refine esr rfl fun _ K1=>?_
 refine A_h rfl rfl (AllOne.mem ⟨(A_F _),(A_F _),A_c,trivial⟩) (fun b3_1=>?_)
 refine emm rfl ?_
 refine enk K1 ?_
 refine esr rfl fun _ K2=>?_
 refine A_A rfl (A_P (k:=0) ti24 rfl rfl rfl) ?_
 refine emm rfl ?_
 refine A_A rfl (A_S (rEliminate_ok f X cols wd hF hg hc0 hc1 hw hx) rfl) ?_
 refine emm rfl ?_
 refine A_A rfl (A_Q rfl rfl) ?_
 refine A_A rfl (A_Q rfl rfl) ?_
 refine emm rfl ?_
 refine enk K2 ?_
 refine esr rfl fun _ K3=>?_
 refine A_A rfl (A_z rfl runUnderlying22 rfl) ?_
 refine A_A rfl (ok_sliceTo sl25 rfl rfl (by omega) (by omega)) ?_
 refine emm rfl ?_
 refine enk K3 ?_
 refine A_R ?_
 exact retR2 (.inr rfl) results99 (A_H (A_T rfl (cv_sl sub_x rfl))) (A_H (A_T rfl (cv_sl sub_x rfl)))

theorem rNull_ok (f:Fld) (X:List (List Int)) (cols:Int) (wd:Nat) (hF:FOk f) (hg:good f wd X) (hc0:0<=cols) (hc1:cols<=wd) (hw:wd<=100000) (hx:X.length<=100000):Ctr Tryz.prog 87 [aFld f,aSl 1 false aInts X,aInt cols] (aSl 1 false aInts (nullR f X cols)):=by
 have hS:=hF.1
 have hpl:=piv_le f X [] cols.toNat
 have hlr:=length_canR f X cols.toNat
 refine A_p Tryz.call87 func87 rfl rfl ?_
 intro w O
 refine A_Y 0 2 rfl rfl (fun hlen0_2=>?_)
 refine A_x 1 rfl (fun hlen1=>?_)
 refine esr rfl fun _ K1=>?_
 refine A_h rfl rfl (AllOne.mem ⟨(A_F _),(A_F _),A_c,trivial⟩) (fun b3_1=>?_)
 refine emm rfl ?_
 refine enk K1 ?_
 refine esr rfl fun _ K2=>?_
 refine A_A rfl (A_P (k:=0) ti24 rfl rfl rfl) ?_
 refine emm rfl ?_
 refine A_A rfl (A_S (rCanon_ok f X cols wd hF hg hc0 hc1 hw hx) rfl) ?_
 refine emm rfl ?_
 refine A_A rfl (A_Q rfl rfl) ?_
 refine A_A rfl (A_Q rfl rfl) ?_
 refine emm rfl ?_
 refine enk K2 ?_
 refine esr rfl fun _ K3=>?_
 refine ent_make aInt 0 rfl vt22 rfl rfl (by omega) (by omega) (by omega) (fun _ _=>rfl) (AllV.mem ⟨rfl,trivial⟩) (fun b24_2=>?_)
 refine emm rfl ?_
 refine enk K3 ?_
 refine A_C fun _ K4=>?_
 refine esk rfl ?_
 refine A_K ?_
 refine A_g (fun (i:Int)=>(⟨[(2,aInt cols),(3,aEx (.pointer (some ⟨b3_1,0,none⟩))),(7,aSl 1 false aInts (canR (elim f X [] cols.toNat))),(8,aSl 1 false aInt ((elim f X [] cols.toNat).piv)),(9,aEx (vec (some b24_2) ((cols).toNat) ((cols).toNat))),(10,aInt i)],[oVec (some b24_2) ((cols).toNat) 3 1 false aInt (leadZ cols i),oBox b3_1 24 [aInt f.P,aInt f.M,aSl 1 false aInt f.mod]]⟩:St)) (fun (i:Int)=>(0<=i)/\(i<=cols)) (fun (i:Int)=>(cols-i).toNat) 0 ⟨(by omega),‹_›⟩ (A_I ⟨rfl,rfl,rfl,rfl,rfl,A_W (A_i (show 0=(0:Int) by rfl)),trivial⟩ (A_N (A_n (show leadZ cols (0:Int)=List.replicate ((cols).toNat) 0 by exact leadZ_zero _)) (rfl))) ?_
 rintro i ⟨h0,h1⟩
 show Ent _ ⟨_,[_,_]⟩ _
 have lz:=length_leadZ cols h0 h1
 refine A_C fun _ K6=>?_
 refine esr rfl fun _ K7=>?_
 refine A_A rfl (A_o rfl rfl) ?_
 refine enk K7 ?_
 refine A_E rfl (fun h27=>?_) (fun h27=>?_)
 ·refine esp K6 ?_
  refine A_C fun _ K8=>?_
  refine A_K ?_
  refine A_D ?_
  refine emm rfl ?_
  refine A_A rfl (A_k sl22 rfl rfl (by omega) (by omega)) ?_
  refine ent_storeV (k:=0) (z:=(-1)) ti3 rfl rfl rfl (A_u (A_F _)) (by omega) (by omega) ?_
  refine enk K8 ?_
  refine A_D ?_
  refine emm rfl ?_
  refine A_A rfl (A_m rfl rfl (by omega) (by omega)) ?_
  refine emm rfl ?_
  refine A_O ?_
  refine A_X (s:=(i)) (i+1) ⟨(by omega),‹_›⟩ (by omega) (A_I ⟨rfl,rfl,rfl,rfl,rfl,rfl,trivial⟩ (A_N (A_n (show leadZ cols (i+1)=List.set (leadZ cols i) (i).toNat (-1) by exact leadZ_succ h0 h27)) (rfl)))
 refine A_e ?_
 refine A_s K4 ?_
 refine A_C fun _ K9=>?_
 refine esk rfl ?_
 refine A_K ?_
 refine A_g (fun (i:Int)=>(⟨[(2,aInt cols),(3,aEx (.pointer (some ⟨b3_1,0,none⟩))),(7,aSl 1 false aInts (canR (elim f X [] cols.toNat))),(8,aSl 1 false aInt ((elim f X [] cols.toNat).piv)),(9,aEx (vec (some b24_2) ((cols).toNat) ((cols).toNat))),(11,aInt i)],[oVec (some b24_2) ((cols).toNat) 3 1 false aInt (leadL cols (elim f X [] cols.toNat).piv i.toNat),oBox b3_1 24 [aInt f.P,aInt f.M,aSl 1 false aInt f.mod]]⟩:St)) (fun (i:Int)=>(0<=i)/\(i<=(elim f X [] cols.toNat).piv.length)) (fun (i:Int)=>((elim f X [] cols.toNat).piv.length-i).toNat) 0 ⟨(by omega),(by omega)⟩ (A_I ⟨rfl,rfl,rfl,rfl,rfl,A_W (A_i (show 0=(0:Int) by rfl)),trivial⟩ (A_N (A_n (show leadL cols (elim f X [] cols.toNat).piv (0:Int).toNat=leadZ cols i by exact leadL_zero (by omega) (by omega))) (rfl))) ?_
 rintro i ⟨h0,h1⟩
 show Ent _ ⟨_,[_,_]⟩ _
 have ll:=length_leadL cols (elim f X [] cols.toNat).piv i.toNat
 refine A_C fun _ K11=>?_
 refine esr rfl fun _ K12=>?_
 refine A_A rfl (A_z rfl runUnderlying22 rfl) ?_
 refine A_A rfl (A_o rfl rfl) ?_
 refine enk K12 ?_
 refine A_E rfl (fun h36=>?_) (fun h36=>?_)
 ·have hpi:=piv_ix f X [] cols.toNat h0 h36
  refine esp K11 ?_
  refine A_C fun _ K13=>?_
  refine A_K ?_
  refine A_D ?_
  refine emm rfl ?_
  refine A_A rfl (A_d 0 sl22 rfl rfl (by omega) (by omega)) ?_
  refine A_A rfl (A_V ti3 rfl) ?_
  refine emm rfl ?_
  refine A_A rfl (A_k sl22 rfl rfl (by omega) (by omega)) ?_
  refine ent_storeV (k:=0) (z:=i) ti3 rfl rfl rfl (A_u (A_F _)) (by omega) (by omega) ?_
  refine enk K13 ?_
  refine A_D ?_
  refine emm rfl ?_
  refine A_A rfl (A_m rfl rfl (by omega) (by omega)) ?_
  refine emm rfl ?_
  refine A_O ?_
  refine A_X (s:=(i)) (i+1) ⟨(by omega),‹_›⟩ (by omega) (A_I ⟨rfl,rfl,rfl,rfl,rfl,rfl,trivial⟩ (A_N (A_n (show leadL cols (elim f X [] cols.toNat).piv (i+1).toNat=List.set (leadL cols (elim f X [] cols.toNat).piv i.toNat) (ix 0 ((elim f X [] cols.toNat).piv) i).toNat i by exact leadL_succ cols (elim f X [] cols.toNat).piv h0)) (rfl)))
 have hie:i.toNat=(elim f X [] cols.toNat).piv.length:=by omega
 have ll2:=length_leadL cols (elim f X [] cols.toNat).piv (elim f X [] cols.toNat).piv.length
 refine A_e ?_
 refine A_s K9 ?_
 refine A_C fun _ K14=>?_
 rw [hie]
 refine A_D ?_
 refine emm rfl ?_
 refine enk K14 ?_
 refine A_C fun _ K15=>?_
 refine esk rfl ?_
 refine A_K ?_
 refine ent_open 22 1 false aInts (fun _=>rfl) ?_
 refine A_g (fun (ss:Int×Option Nat×Nat)=>match ss with | (c,rr4,cc4)=>(⟨[(2,aInt cols),(3,aEx (.pointer (some ⟨b3_1,0,none⟩))),(7,aSl 1 false aInts (canR (elim f X [] cols.toNat))),(8,aSl 1 false aInt ((elim f X [] cols.toNat).piv)),(9,aEx (vec (some b24_2) ((cols).toNat) ((cols).toNat))),(12,aEx (vec rr4 ((kerL f (canR (elim f X [] cols.toNat)) (elim f X [] cols.toNat).piv cols c.toNat).length) cc4)),(13,aInt c)],[oVec rr4 cc4 22 1 false aInts (kerL f (canR (elim f X [] cols.toNat)) (elim f X [] cols.toNat).piv cols c.toNat),oVec (some b24_2) ((cols).toNat) 3 1 false aInt (leadL cols (elim f X [] cols.toNat).piv (elim f X [] cols.toNat).piv.length),oBox b3_1 24 [aInt f.P,aInt f.M,aSl 1 false aInt f.mod]]⟩:St)) (fun (ss:Int×Option Nat×Nat)=>match ss with | (c,rr4,cc4)=>(0<=c)/\(c<=cols)) (fun (ss:Int×Option Nat×Nat)=>match ss with | (c,rr4,cc4)=>(cols-c).toNat) (0,none,0) ⟨(by omega),‹_›⟩ (A_I ⟨rfl,rfl,rfl,rfl,rfl,A_W ((show aEx (vec none ([]:List _).length 0)=aEx (vec none ((kerL f (canR (elim f X [] cols.toNat)) (elim f X [] cols.toNat).piv cols (0:Int).toNat).length) 0) from av_vec (congrArg List.length (show kerL f (canR (elim f X [] cols.toNat)) (elim f X [] cols.toNat).piv cols (0:Int).toNat = [] by rfl).symm))),A_W (A_i (show 0=(0:Int) by rfl)),trivial⟩ (A_N (A_n (show kerL f (canR (elim f X [] cols.toNat)) (elim f X [] cols.toNat).piv cols (0:Int).toNat = [] by rfl)) (rfl))) ?_
 rintro ⟨c,rr4,cc4⟩ ⟨c0,c1⟩
 show Ent _ ⟨_,[_,_,_]⟩ _
 have hkl:=kerL_len f (canR (elim f X [] cols.toNat)) (elim f X [] cols.toNat).piv cols c.toNat
 have hld:=leadL_mem (f:=f) (X:=X) (cols:=cols) c0
 refine A_C fun _ K17=>?_
 refine esr rfl fun _ K18=>?_
 refine A_A rfl (A_o rfl rfl) ?_
 refine enk K18 ?_
 refine A_E rfl (fun h48=>?_) (fun h48=>?_)
 ·refine esp K17 ?_
  refine A_C fun _ K19=>?_
  refine A_K ?_
  refine A_C fun _ K20=>?_
  refine esr rfl fun _ K21=>?_
  refine A_A rfl (A_k sl22 rfl rfl (by omega) (by omega)) ?_
  refine A_A rfl (ok_loadV (k:=1) 0 ti3 rfl rfl (by omega) (by omega)) ?_
  refine A_A rfl (ok_geq rfl rfl) ?_
  refine enk K21 ?_
  refine A_E rfl (fun h55=>?_) (fun h55=>?_)
  ·have hin:c∈(elim f X [] cols.toNat).piv:=(hld (by omega)).1 h55
   refine A_e ?_
   refine A_s K19 ?_
   refine A_D ?_
   refine emm rfl ?_
   refine A_A rfl (A_m rfl rfl (by omega) (by omega)) ?_
   refine emm rfl ?_
   refine A_O ?_
   refine A_X (s:=(c,rr4,cc4)) (c+1,rr4,cc4) ⟨(by omega),‹_›⟩ (by dsimp only;omega) (A_I ⟨rfl,rfl,rfl,rfl,rfl,A_W (av_vec (congrArg List.length (show kerL f (canR (elim f X [] cols.toNat)) (elim f X [] cols.toNat).piv cols (c+1).toNat=kerL f (canR (elim f X [] cols.toNat)) (elim f X [] cols.toNat).piv cols c.toNat by exact kerL_in c0 hin).symm)),rfl,trivial⟩ (A_N (A_n (show kerL f (canR (elim f X [] cols.toNat)) (elim f X [] cols.toNat).piv cols (c+1).toNat=kerL f (canR (elim f X [] cols.toNat)) (elim f X [] cols.toNat).piv cols c.toNat by exact kerL_in c0 hin)) (rfl)))
  have hin:c∉(elim f X [] cols.toNat).piv:=fun h=>h55 ((hld (by omega)).2 h)
  refine esp K20 ?_
  refine esr rfl fun _ K22=>?_
  refine ent_make aInt 0 rfl vt22 rfl rfl (by omega) (by omega) (by omega) (fun _ _=>rfl) (AllV.mem ⟨rfl,trivial⟩) (fun b57_5=>?_)
  refine emm rfl ?_
  refine enk K22 ?_
  refine esr rfl fun _ K23=>?_
  refine A_A rfl (A_k sl22 rfl rfl (by omega) (by omega)) ?_
  refine ent_storeV (k:=0) (z:=1) ti3 rfl rfl rfl (A_u (A_F _)) (by omega) (by simp only [List.length_set,List.length_replicate];omega) ?_
  refine enk K23 ?_
  refine A_C fun _ K24=>?_
  refine esk rfl ?_
  refine A_K ?_
  refine A_g (fun (i:Int)=>(⟨[(2,aInt cols),(3,aEx (.pointer (some ⟨b3_1,0,none⟩))),(7,aSl 1 false aInts (canR (elim f X [] cols.toNat))),(8,aSl 1 false aInt ((elim f X [] cols.toNat).piv)),(9,aEx (vec (some b24_2) ((cols).toNat) ((cols).toNat))),(12,aEx (vec rr4 ((kerL f (canR (elim f X [] cols.toNat)) (elim f X [] cols.toNat).piv cols c.toNat).length) cc4)),(13,aInt c),(14,aEx (vec (some b57_5) ((cols).toNat) ((cols).toNat))),(15,aInt i)],[oVec (some b57_5) ((cols).toNat) 3 1 false aInt (kerTo f (canR (elim f X [] cols.toNat)) (elim f X [] cols.toNat).piv cols c i.toNat),oVec rr4 cc4 22 1 false aInts (kerL f (canR (elim f X [] cols.toNat)) (elim f X [] cols.toNat).piv cols c.toNat),oVec (some b24_2) ((cols).toNat) 3 1 false aInt (leadL cols (elim f X [] cols.toNat).piv (elim f X [] cols.toNat).piv.length),oBox b3_1 24 [aInt f.P,aInt f.M,aSl 1 false aInt f.mod]]⟩:St)) (fun (i:Int)=>(0<=i)/\(i<=(elim f X [] cols.toNat).piv.length)) (fun (i:Int)=>((elim f X [] cols.toNat).piv.length-i).toNat) 0 ⟨(by omega),(by omega)⟩ (A_I ⟨rfl,rfl,rfl,rfl,rfl,rfl,rfl,rfl,A_W (A_i (show 0=(0:Int) by rfl)),trivial⟩ (A_N (A_n (show kerTo f (canR (elim f X [] cols.toNat)) (elim f X [] cols.toNat).piv cols c (0:Int).toNat=List.set (List.replicate ((cols).toNat) 0) (c).toNat 1 by rfl)) (rfl))) ?_
  rintro i ⟨i0,i1⟩
  show Ent _ ⟨_,[_,_,_,_]⟩ _
  have lk:=length_kerTo f (canR (elim f X [] cols.toNat)) (elim f X [] cols.toNat).piv cols c i.toNat
  refine A_C fun _ K26=>?_
  refine esr rfl fun _ K27=>?_
  refine A_A rfl (A_z rfl runUnderlying22 rfl) ?_
  refine A_A rfl (A_o rfl rfl) ?_
  refine enk K27 ?_
  refine A_E rfl (fun h64=>?_) (fun h64=>?_)
  ·have hpi:=piv_ix f X [] cols.toNat i0 h64
   have hri:=wide_ix (good_wide (canR_good hF.1 hg cols.toNat)) i0 (by omega)
   refine esp K26 ?_
   refine A_C fun _ K28=>?_
   refine A_K ?_
   refine A_t 15 mixed (by kernel_rfl) (by kernel_rfl) (by kernel_rfl) ?_
   refine dw_o rfl (A_J rfl) ?_
   refine dw_o rfl (A_J rfl) ?_
   refine dw_o rfl (A_J rfl) ?_
   refine dw_o rfl (A_d 0 sl22 rfl rfl (by omega) (by omega)) ?_
   refine dw_o rfl (A_V ti3 rfl) ?_
   refine dw_o rfl (A_P (k:=3) ti24 rfl rfl rfl) ?_
   refine dw_o rfl (A_J rfl) ?_
   refine dw_o rfl (A_J rfl) ?_
   refine dw_o rfl (A_d [] sl25 rfl rfl (by omega) (by omega)) ?_
   refine dw_o rfl (A_V ti22 rfl) ?_
   refine dw_o rfl (A_J rfl) ?_
   refine dw_o rfl (A_d 0 sl22 rfl rfl (by omega) (by omega)) ?_
   refine dw_o rfl (A_V ti3 rfl) ?_
   refine dw_o rfl (A_S (rNeg_ok f (ix 0 (ix [] (canR (elim f X [] cols.toNat)) i) c) ‹_›) rfl) ?_
   refine dw_o rfl (A_k sl22 rfl rfl (by omega) (by omega)) ?_
   refine dw_nil ?_
   refine ent_storeV (k:=0) (z:=negF f (ix 0 (ix [] (canR (elim f X [] cols.toNat)) i) c)) ti3 rfl rfl rfl (A_u (A_F _)) (by omega) (by omega) ?_
   refine enk K28 ?_
   refine A_D ?_
   refine emm rfl ?_
   refine A_A rfl (A_m rfl rfl (by omega) (by omega)) ?_
   refine emm rfl ?_
   refine A_O ?_
   refine A_X (s:=(i)) (i+1) ⟨(by omega),‹_›⟩ (by omega) (A_I ⟨rfl,rfl,rfl,rfl,rfl,rfl,rfl,rfl,rfl,trivial⟩ (A_N (A_n (show kerTo f (canR (elim f X [] cols.toNat)) (elim f X [] cols.toNat).piv cols c (i+1).toNat=List.set (kerTo f (canR (elim f X [] cols.toNat)) (elim f X [] cols.toNat).piv cols c i.toNat) (ix 0 ((elim f X [] cols.toNat).piv) i).toNat (negF f (ix 0 (ix [] (canR (elim f X [] cols.toNat)) i) c)) by exact kerTo_succ f _ _ _ _ i0)) (rfl)))
  refine A_e ?_
  refine A_s K24 ?_
  refine A_D ?_
  refine emm rfl ?_
  refine ent_give 0 83 rfl (cv_vec (k:=0) (off_erase rfl) (by simp) rfl) ?_
  refine ent_appendL (k:=0) (enc:=aInts) (y:=kerTo f (canR (elim f X [] cols.toNat)) (elim f X [] cols.toNat).piv cols c i.toNat) rfl rfl vt25 rfl rfl rfl rfl ((A_u A_c)) (by omega) (by omega) (by decide) (fun b85_6 c85_6=>?_)
  refine emm rfl ?_
  refine enk K19 ?_
  refine A_D ?_
  refine emm rfl ?_
  refine A_A rfl (A_m rfl rfl (by omega) (by omega)) ?_
  refine emm rfl ?_
  refine A_O ?_
  refine A_X (s:=(c,rr4,cc4)) (c+1,(some b85_6),c85_6) ⟨(by omega),‹_›⟩ (by dsimp only;omega) (A_I ⟨rfl,rfl,rfl,rfl,rfl,A_W (av_vec (congrArg List.length (show kerL f (canR (elim f X [] cols.toNat)) (elim f X [] cols.toNat).piv cols (c+1).toNat=(kerL f (canR (elim f X [] cols.toNat)) (elim f X [] cols.toNat).piv cols c.toNat)++[kerTo f (canR (elim f X [] cols.toNat)) (elim f X [] cols.toNat).piv cols c i.toNat] by rw [kerL_out c0 hin,show i.toNat=(elim f X [] cols.toNat).piv.length by omega]).symm)),rfl,trivial⟩ (A_N (A_n (show kerL f (canR (elim f X [] cols.toNat)) (elim f X [] cols.toNat).piv cols (c+1).toNat=(kerL f (canR (elim f X [] cols.toNat)) (elim f X [] cols.toNat).piv cols c.toNat)++[kerTo f (canR (elim f X [] cols.toNat)) (elim f X [] cols.toNat).piv cols c i.toNat] by rw [kerL_out c0 hin,show i.toNat=(elim f X [] cols.toNat).piv.length by omega])) (rfl)))
 have hcc:c=cols:=by omega
 have hkg:=ker_good hF.1 (canR (elim f X [] cols.toNat)) (elim f X [] cols.toNat).piv cols c.toNat
 refine A_e ?_
 refine A_s K15 ?_
 refine esr rfl fun _ K29=>?_
 refine A_A rfl (A_P (k:=2) ti24 rfl rfl rfl) ?_
 refine emm rfl ?_
 refine ent_give 0 88 rfl (cv_vec (k:=0) (off_erase rfl) rfl rfl) ?_
 refine A_A rfl (A_S (rCanon_ok f (kerL f (canR (elim f X [] cols.toNat)) (elim f X [] cols.toNat).piv cols c.toNat) cols cols.toNat ‹_› hkg ‹_› (by omega) (by omega) (by omega)) rfl) ?_
 refine emm rfl ?_
 refine A_A rfl (A_Q rfl rfl) ?_
 refine A_A rfl (A_Q rfl rfl) ?_
 refine emm rfl ?_
 refine enk K29 ?_
 refine esk rfl ?_
 refine A_R ?_
 exact retR1 (.inr rfl) results87 (A_H (A_T rfl (cv_sl sub_x (by unfold nullR kerX;rw [hcc]))))
end Go.Proofs.YtcilbmggiahciaaGreat

