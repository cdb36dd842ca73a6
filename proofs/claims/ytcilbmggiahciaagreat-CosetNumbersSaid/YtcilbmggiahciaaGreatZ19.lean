/-
  Walks of functions of the program and the reference.
-/
import Derived.Test.YtcilbmggiahciaaGreatZ18
open Go Go.Cw
namespace Go.Proofs.YtcilbmggiahciaaGreat
open Tryz
set_option maxRecDepth 100000
set_option linter.unusedVariables false
set_option linter.unusedSimpArgs false
set_option maxHeartbeats 4000000 in
theorem rEliminate_ok (f:Fld) (X:List (List Int)) (cols:Int) (wd:Nat) (hF:FOk f) (hg:good f wd X) (hc0:0<=cols) (hc1:cols<=wd) (hw:wd<=100000) (hx:X.length<=100000):Ctr Tryz.prog 114 [aFld f,aSl 1 false aInts X,aInt cols] (aTup [aSl 1 false aInts ((elim f X [] cols.toNat).X),aSl 1 false aInt ((elim f X [] cols.toNat).piv)]):=by
 refine A_p Tryz.call114 func114 rfl rfl ?_
 intro w O
 refine A_Y 0 2 rfl rfl (fun hlen0_2=>?_)
 refine A_x 1 rfl (fun hlen1=>?_)
 refine esr rfl fun _ K1=>?_
 refine A_h rfl rfl (AllOne.mem ⟨(A_F _),(A_F _),A_c,trivial⟩) (fun b3_1=>?_)
 refine emm rfl ?_
 refine enk K1 ?_
 refine esr rfl fun _ K2=>?_
 refine ent_callN rfl (rCopy_ok X (by omega) (fun l hl=>by have:=(hg l hl).1;omega)) (ArgsA.ok ⟨arg_a rfl (cv_id (sub_lent _)),trivial⟩) (fun r15 c15=>?_)
 refine emm rfl ?_
 refine enk K2 ?_
 refine esk rfl ?_
 refine esk rfl ?_
 refine A_C fun _ K5=>?_
 refine esk rfl ?_
 refine A_K ?_
 refine ent_open 3 1 false aInt (fun _=>rfl) ?_
 refine A_g (fun (ss:Int×Option Nat×Nat)=>match ss with | (c,rr3,cc3)=>(⟨[(2,aInt cols),(3,aEx (.pointer (some ⟨b3_1,0,none⟩))),(8,aEx (vec r15 ((X).length) c15)),(9,aEx (vec rr3 (((elim f X [] c.toNat).piv).length) cc3)),(10,aInt ((elim f X [] c.toNat).piv.length:Int)),(11,aInt c)],[oVec rr3 cc3 3 1 false aInt ((elim f X [] c.toNat).piv),oVec r15 c15 22 1 false aInts ((elim f X [] c.toNat).X),oBox b3_1 24 [aInt f.P,aInt f.M,aSl 1 false aInt f.mod]]⟩:St)) (fun (ss:Int×Option Nat×Nat)=>match ss with | (c,rr3,cc3)=>(0<=c)/\(c<=cols)) (fun (ss:Int×Option Nat×Nat)=>match ss with | (c,rr3,cc3)=>(cols-c).toNat) (0,none,0) ⟨(by omega),‹_›⟩ (A_I ⟨rfl,rfl,rfl,A_W ((show aEx (vec none ([]:List _).length 0)=aEx (vec none (((elim f X [] (0:Int).toNat).piv).length) 0) from av_vec (congrArg List.length (show (elim f X [] (0:Int).toNat).piv = [] by rfl).symm))),A_W (A_i (show 0=((elim f X [] (0:Int).toNat).piv.length:Int) by rfl)),A_W (A_i (show 0=(0:Int) by rfl)),trivial⟩ (A_N (A_n (show (elim f X [] (0:Int).toNat).piv = [] by rfl)) (A_N (A_n (show (elim f X [] (0:Int).toNat).X=X by rfl)) (rfl)))) ?_
 rintro ⟨c,rr3,cc3⟩ ⟨c0,c1⟩
 show Ent _ ⟨_,[_,_,_]⟩ _
 have hS:=hF.1
 have hlX:=(length_elim f X [] c.toNat).1
 have hpl:=piv_le f X [] c.toNat
 have hgX:=good_elim hS (Y:=[]) hg c.toNat
 refine A_C fun _ K7=>?_
 refine A_C fun _ K8=>?_
 refine ent_cut (⟨[(2,aInt cols),(3,aEx (.pointer (some ⟨b3_1,0,none⟩))),(8,aEx (vec r15 ((X).length) c15)),(9,aEx (vec rr3 (((elim f X [] c.toNat).piv).length) cc3)),(10,aInt ((elim f X [] c.toNat).piv.length:Int)),(11,aInt c),(24,aBool (decide ((c<cols)/\(((elim f X [] c.toNat).piv.length:Int)<(↑((X).length):Int)))))],[oVec rr3 cc3 3 1 false aInt ((elim f X [] c.toNat).piv),oVec r15 c15 22 1 false aInts ((elim f X [] c.toNat).X),oBox b3_1 24 [aInt f.P,aInt f.M,aSl 1 false aInt f.mod]]⟩) ?_ ?_
 ·refine A_D ?_
  refine emm rfl ?_
  refine A_A rfl (A_o rfl rfl) ?_
  refine emm rfl ?_
  refine ent_guardXDt rfl rfl rfl rfl (fun hg19=>?_) (fun hg19=>?_)
  ·refine emm rfl ?_
   refine A_M rfl rfl rfl rfl (decide_eq_true hg19) ?_
   refine emm rfl ?_
   refine A_M rfl rfl rfl rfl (decide_eq_true hg19) ?_
   refine A_A rfl (ok_lenEx rfl runUnderlying25 rfl) ?_
   refine A_M rfl rfl rfl rfl (decide_eq_true hg19) ?_
   refine A_A rfl (A_o rfl rfl) ?_
   refine A_A rfl (A_l rfl (decide_eq_true hg19) rfl) ?_
   refine A_O ?_
   exact A_I ⟨rfl,rfl,rfl,rfl,rfl,rfl,A_Z (dq_Q ((and_iff_right hg19).trans Iff.rfl)),trivial⟩ rfl
  refine A_G rfl rfl rfl rfl (decide_eq_false hg19) ?_
  refine A_G rfl rfl rfl rfl (decide_eq_false hg19) ?_
  refine A_G rfl rfl rfl rfl (decide_eq_false hg19) ?_
  refine A_A rfl (A_r rfl (decide_eq_false hg19) rfl) ?_
  refine A_O ?_
  exact A_I ⟨rfl,rfl,rfl,rfl,rfl,rfl,A_Z (dq_F rfl (fun h=>hg19 h.1)),trivial⟩ rfl
 refine A_s K8 ?_
 refine A_E rfl (fun h24=>?_) (fun h24=>?_)
 ·refine esp K7 ?_
  refine A_C fun _ K9=>?_
  refine A_K ?_
  refine esk rfl ?_
  refine A_C fun _ K11=>?_
  refine A_K ?_
  refine A_g (fun (k:Int)=>(⟨[(2,aInt cols),(3,aEx (.pointer (some ⟨b3_1,0,none⟩))),(8,aEx (vec r15 ((X).length) c15)),(9,aEx (vec rr3 (((elim f X [] c.toNat).piv).length) cc3)),(10,aInt ((elim f X [] c.toNat).piv.length:Int)),(11,aInt c),(12,aInt k)],[oVec rr3 cc3 3 1 false aInt ((elim f X [] c.toNat).piv),oVec r15 c15 22 1 false aInts ((elim f X [] c.toNat).X),oBox b3_1 24 [aInt f.P,aInt f.M,aSl 1 false aInt f.mod]]⟩:St)) (fun (k:Int)=>(((elim f X [] c.toNat).piv.length:Int)<=k)/\(k<=X.length)/\(∀z:Int,((elim f X [] c.toNat).piv.length:Int)<=z->z<k->ix 0 (ix [] (elim f X [] c.toNat).X z) c=0)) (fun (k:Int)=>(X.length-k).toNat) ((elim f X [] c.toNat).piv.length:Int) ⟨(by omega),(by omega),(fun z z0 z1=>by omega)⟩ (A_I ⟨rfl,rfl,rfl,rfl,rfl,rfl,rfl,trivial⟩ rfl) ?_
  rintro k ⟨k0,k1,kz⟩
  show Ent _ ⟨_,[_,_,_]⟩ _
  refine A_C fun _ K12=>?_
  refine A_C fun _ K13=>?_
  refine ent_cut (⟨[(2,aInt cols),(3,aEx (.pointer (some ⟨b3_1,0,none⟩))),(8,aEx (vec r15 ((X).length) c15)),(9,aEx (vec rr3 (((elim f X [] c.toNat).piv).length) cc3)),(10,aInt ((elim f X [] c.toNat).piv.length:Int)),(11,aInt c),(12,aInt k),(41,aBool (decide ((k<(↑((X).length):Int))/\((ix 0 (ix [] ((elim f X [] c.toNat).X) k) c)=0))))],[oVec rr3 cc3 3 1 false aInt ((elim f X [] c.toNat).piv),oVec r15 c15 22 1 false aInts ((elim f X [] c.toNat).X),oBox b3_1 24 [aInt f.P,aInt f.M,aSl 1 false aInt f.mod]]⟩) ?_ ?_
  ·refine A_D ?_
   refine emm rfl ?_
   refine A_A rfl (ok_lenEx rfl runUnderlying25 rfl) ?_
   refine A_A rfl (A_o rfl rfl) ?_
   refine emm rfl ?_
   refine ent_guardXDt rfl rfl rfl rfl (fun hg32=>?_) (fun hg32=>?_)
   ·have hrk:=wide_ix (good_wide hgX) (i:=k) (by omega) (by omega)
    refine emm rfl ?_
    refine A_M rfl rfl rfl rfl (decide_eq_true hg32) ?_
    refine emm rfl ?_
    refine A_M rfl rfl rfl rfl (decide_eq_true hg32) ?_
    refine ent_rsome 1 rfl (by omega) (fun b35_4 hb35_4=>?_)
    subst hb35_4
    refine A_A rfl (A_k sl25 rfl rfl (by omega) (by omega)) ?_
    refine A_M rfl rfl rfl rfl (decide_eq_true hg32) ?_
    refine A_A rfl (ok_loadV (k:=1) [] ti22 rfl rfl (by omega) (by omega)) ?_
    refine A_M rfl rfl rfl rfl (decide_eq_true hg32) ?_
    refine emm rfl ?_
    refine A_M rfl rfl rfl rfl (decide_eq_true hg32) ?_
    refine A_A rfl (A_d 0 sl22 rfl rfl (by omega) (by omega)) ?_
    refine A_M rfl rfl rfl rfl (decide_eq_true hg32) ?_
    refine A_A rfl (A_V ti3 rfl) ?_
    refine A_M rfl rfl rfl rfl (decide_eq_true hg32) ?_
    refine A_A rfl (ok_eql rfl rfl) ?_
    refine A_A rfl (A_l rfl (decide_eq_true hg32) rfl) ?_
    refine A_O ?_
    exact A_I ⟨rfl,rfl,rfl,rfl,rfl,rfl,rfl,A_Z (dq_Q ((and_iff_right hg32).trans Iff.rfl)),trivial⟩ rfl
   refine A_G rfl rfl rfl rfl (decide_eq_false hg32) ?_
   refine A_G rfl rfl rfl rfl (decide_eq_false hg32) ?_
   refine A_G rfl rfl rfl rfl (decide_eq_false hg32) ?_
   refine A_G rfl rfl rfl rfl (decide_eq_false hg32) ?_
   refine A_G rfl rfl rfl rfl (decide_eq_false hg32) ?_
   refine A_G rfl rfl rfl rfl (decide_eq_false hg32) ?_
   refine A_G rfl rfl rfl rfl (decide_eq_false hg32) ?_
   refine A_A rfl (A_r rfl (decide_eq_false hg32) rfl) ?_
   refine A_O ?_
   exact A_I ⟨rfl,rfl,rfl,rfl,rfl,rfl,rfl,A_Z (dq_F rfl (fun h=>hg32 h.1)),trivial⟩ rfl
  refine A_s K13 ?_
  refine A_E rfl (fun h41=>?_) (fun h41=>?_)
  ·refine esp K12 ?_
   refine A_K ?_
   refine A_D ?_
   refine emm rfl ?_
   refine A_A rfl (A_m rfl rfl (by omega) (by omega)) ?_
   refine emm rfl ?_
   refine A_O ?_
   refine A_X (s:=(k)) (k+1) ⟨(by omega),(by omega),(fun z z0 z1=>by by_cases hz:z=k;(rw [hz];exact h41.2);exact kz z z0 (by omega))⟩ (by omega) (A_I ⟨rfl,rfl,rfl,rfl,rfl,rfl,rfl,trivial⟩ rfl)
  refine A_e ?_
  refine A_s K11 ?_
  refine A_C fun _ K14=>?_
  refine esr rfl fun _ K15=>?_
  refine A_A rfl (ok_lenEx rfl runUnderlying25 rfl) ?_
  refine A_A rfl (ok_eql rfl rfl) ?_
  refine A_O ?_
  refine ent_rsome 1 rfl (by omega) (fun b8_5 hb8_5=>?_)
  subst hb8_5
  refine A_s K15 ?_
  refine A_E rfl (fun h47=>?_) (fun h47=>?_)
  ·have hsm:=elim_same (f:=f) (X:=X) (Y:=[]) (k:=k) c0 (pivK_eq (by omega) (by omega) (by omega) kz (.inl (by omega))) (by omega)
   refine A_e ?_
   refine A_s K9 ?_
   refine A_D ?_
   refine emm rfl ?_
   refine A_A rfl (A_m rfl rfl (by omega) (by omega)) ?_
   refine emm rfl ?_
   refine A_O ?_
   refine A_X (s:=(c,rr3,cc3)) (c+1,rr3,cc3) ⟨(by omega),(by omega)⟩ (by dsimp only;omega) (A_I ⟨rfl,rfl,A_W (av_vec rfl),A_W (av_vec (congrArg List.length (show (elim f X [] (c+1).toNat).piv=(elim f X [] c.toNat).piv by rw [hsm]).symm)),A_W (A_i (show ((elim f X [] c.toNat).piv.length:Int)=((elim f X [] (c+1).toNat).piv.length:Int) by rw [hsm])),rfl,trivial⟩ (A_N (A_n (show (elim f X [] (c+1).toNat).piv=(elim f X [] c.toNat).piv by rw [hsm])) (A_N (A_n (show (elim f X [] (c+1).toNat).X=(elim f X [] c.toNat).X by rw [hsm])) (rfl))))
  have hen:ix 0 (ix [] (elim f X [] c.toNat).X k) c≠0:=fun h=>h41 ⟨by omega,h⟩
  have hne:=rows_next (f:=f) (X:=X) (Y:=[]) (k:=k) c0 (by omega) (pivK_eq (by omega) (by omega) (by omega) kz (.inr hen)) (by omega)
  refine esp K14 ?_
  refine A_C fun _ K16=>?_
  refine ent_drawFl 12 [2,3] mixed (by kernel_rfl) (by kernel_rfl) (by kernel_rfl) (by kernel_rfl) (by kernel_rfl) (fun _ _ _ _ _ h=>h) ?_
  refine dw_o rfl (A_J rfl) ?_
  refine dw_o rfl (A_J rfl) ?_
  refine dw_o rfl (A_J rfl) ?_
  refine dw_o rfl (A_J rfl) ?_
  refine dw_o rfl (A_J rfl) ?_
  refine dw_o rfl (A_J rfl) ?_
  refine dw_o rfl (A_k sl25 rfl rfl (by omega) (by omega)) ?_
  refine dw_o rfl (ok_loadV (k:=1) [] ti22 rfl rfl (by omega) (by omega)) ?_
  refine dw_o rfl (A_J rfl) ?_
  refine dw_o rfl (A_J rfl) ?_
  refine dw_o rfl (A_k sl25 rfl rfl (by omega) (by omega)) ?_
  refine dw_o rfl (ok_loadV (k:=1) [] ti22 rfl rfl (by omega) (by omega)) ?_
  refine dw_nil ?_
  refine A_A rfl (A_k sl25 rfl rfl (by omega) (by omega)) ?_
  refine ent_storeV (k:=1) (z:=ix [] ((elim f X [] c.toNat).X) k) ti22 rfl rfl rfl (A_u A_c) (by omega) (by omega) ?_
  refine A_A rfl (A_k sl25 rfl rfl (by omega) (by omega)) ?_
  refine ent_storeV (k:=1) (z:=ix [] ((elim f X [] c.toNat).X) ((elim f X [] c.toNat).piv.length:Int)) ti22 rfl rfl rfl (A_u A_c) (by omega) (by simp only [List.length_set];omega) ?_
  refine enk K16 ?_
  refine A_C fun _ K17=>?_
  refine A_C fun _ K18=>?_
  have hrw:=swp_row (s:=(elim f X [] c.toNat)) hgX (k:=k) (by omega) (by omega) (by omega)
  unfold swp at hrw
  refine A_D ?_
  refine emm rfl ?_
  refine A_A rfl (A_k sl25 rfl rfl (by omega) (by omega)) ?_
  refine A_A rfl (ok_loadV (k:=1) [] ti22 rfl rfl (by omega) (by simp only [List.length_set];omega)) ?_
  refine emm rfl ?_
  refine A_A rfl (A_d 0 sl22 rfl rfl (by omega) (by omega)) ?_
  refine A_A rfl (A_V ti3 rfl) ?_
  refine A_A rfl (A_y rfl rfl) ?_
  refine enk K18 ?_
  refine ent_cut (⟨[(2,aInt cols),(3,aEx (.pointer (some ⟨b3_1,0,none⟩))),(8,aEx (vec (some b8_5) ((X).length) c15)),(9,aEx (vec rr3 (((elim f X [] c.toNat).piv).length) cc3)),(10,aInt ((elim f X [] c.toNat).piv.length:Int)),(11,aInt c)],[oVec rr3 cc3 3 1 false aInt ((elim f X [] c.toNat).piv),oVec (some b8_5) c15 22 1 false aInts (ph2 f c (elim f X [] c.toNat) (elim f X [] c.toNat).X k),oBox b3_1 24 [aInt f.P,aInt f.M,aSl 1 false aInt f.mod]]⟩) ?_ ?_
  ·refine A_E rfl (fun h69=>?_) (fun h69=>?_)
   ·refine A_t 18 mixed (by kernel_rfl) (by kernel_rfl) (by kernel_rfl) ?_
    refine dw_o rfl (A_J rfl) ?_
    refine dw_o rfl (A_J rfl) ?_
    refine dw_o rfl (A_P (k:=2) ti24 rfl rfl rfl) ?_
    refine dw_o rfl (A_P (k:=2) ti24 rfl rfl rfl) ?_
    refine dw_o rfl (A_J rfl) ?_
    refine dw_o rfl (A_J rfl) ?_
    refine dw_o rfl (A_k sl25 rfl rfl (by omega) (by omega)) ?_
    refine dw_o rfl (ok_loadV (k:=1) [] ti22 rfl rfl (by omega) (by simp only [List.length_set];omega)) ?_
    refine dw_o rfl (A_J rfl) ?_
    refine dw_o rfl (A_d 0 sl22 rfl rfl (by omega) (by omega)) ?_
    refine dw_o rfl (A_V ti3 rfl) ?_
    refine dw_o rfl (A_S (rInv_ok f (ix 0 (ix [] (List.set (List.set ((elim f X [] c.toNat).X) (((elim f X [] c.toNat).piv.length:Int)).toNat (ix [] ((elim f X [] c.toNat).X) k)) (k).toNat (ix [] ((elim f X [] c.toNat).X) ((elim f X [] c.toNat).piv.length:Int))) ((elim f X [] c.toNat).piv.length:Int)) c) ‹_›) rfl) ?_
    refine dw_o rfl (A_J rfl) ?_
    refine dw_o rfl (A_J rfl) ?_
    refine dw_o rfl (A_k sl25 rfl rfl (by omega) (by omega)) ?_
    refine dw_o rfl (ok_loadV (k:=1) [] ti22 rfl rfl (by omega) (by simp only [List.length_set];omega)) ?_
    refine dw_o rfl (A_S (CtrF.ctr (CtrF.sl (rscale_ok f (invF f (ix 0 (ix [] (List.set (List.set ((elim f X [] c.toNat).X) (((elim f X [] c.toNat).piv.length:Int)).toNat (ix [] ((elim f X [] c.toNat).X) k)) (k).toNat (ix [] ((elim f X [] c.toNat).X) ((elim f X [] c.toNat).piv.length:Int))) ((elim f X [] c.toNat).piv.length:Int)) c)) (ix [] (List.set (List.set ((elim f X [] c.toNat).X) (((elim f X [] c.toNat).piv.length:Int)).toNat (ix [] ((elim f X [] c.toNat).X) k)) (k).toNat (ix [] ((elim f X [] c.toNat).X) ((elim f X [] c.toNat).piv.length:Int))) ((elim f X [] c.toNat).piv.length:Int)) ‹_› (by omega)))) rfl) ?_
    refine dw_o rfl (A_k sl25 rfl rfl (by omega) (by omega)) ?_
    refine dw_nil ?_
    refine ent_storeV (k:=1) (z:=scaleF f (invF f (ix 0 (ix [] (List.set (List.set ((elim f X [] c.toNat).X) (((elim f X [] c.toNat).piv.length:Int)).toNat (ix [] ((elim f X [] c.toNat).X) k)) (k).toNat (ix [] ((elim f X [] c.toNat).X) ((elim f X [] c.toNat).piv.length:Int))) ((elim f X [] c.toNat).piv.length:Int)) c)) (ix [] (List.set (List.set ((elim f X [] c.toNat).X) (((elim f X [] c.toNat).piv.length:Int)).toNat (ix [] ((elim f X [] c.toNat).X) k)) (k).toNat (ix [] ((elim f X [] c.toNat).X) ((elim f X [] c.toNat).piv.length:Int))) ((elim f X [] c.toNat).piv.length:Int))) ti22 rfl rfl rfl (A_u A_c) (by omega) (by simp only [List.length_set];omega) ?_
    refine A_O ?_
    exact A_I ⟨rfl,rfl,rfl,rfl,rfl,rfl,trivial⟩ (A_N (rfl) (A_N (A_n (show ph2 f c (elim f X [] c.toNat) (elim f X [] c.toNat).X k=List.set (List.set (List.set ((elim f X [] c.toNat).X) (((elim f X [] c.toNat).piv.length:Int)).toNat (ix [] ((elim f X [] c.toNat).X) k)) (k).toNat (ix [] ((elim f X [] c.toNat).X) ((elim f X [] c.toNat).piv.length:Int))) (((elim f X [] c.toNat).piv.length:Int)).toNat (scaleF f (invF f (ix 0 (ix [] (List.set (List.set ((elim f X [] c.toNat).X) (((elim f X [] c.toNat).piv.length:Int)).toNat (ix [] ((elim f X [] c.toNat).X) k)) (k).toNat (ix [] ((elim f X [] c.toNat).X) ((elim f X [] c.toNat).piv.length:Int))) ((elim f X [] c.toNat).piv.length:Int)) c)) (ix [] (List.set (List.set ((elim f X [] c.toNat).X) (((elim f X [] c.toNat).piv.length:Int)).toNat (ix [] ((elim f X [] c.toNat).X) k)) (k).toNat (ix [] ((elim f X [] c.toNat).X) ((elim f X [] c.toNat).piv.length:Int))) ((elim f X [] c.toNat).piv.length:Int))) by exact (ph2_scale hF hgX (by omega) (by omega) (by omega) hen h69).symm)) (rfl)))
   refine ent_skip ?_
   exact A_I ⟨rfl,rfl,rfl,rfl,rfl,rfl,trivial⟩ (A_N (rfl) (A_N (A_n (show ph2 f c (elim f X [] c.toNat) (elim f X [] c.toNat).X k=List.set (List.set ((elim f X [] c.toNat).X) (((elim f X [] c.toNat).piv.length:Int)).toNat (ix [] ((elim f X [] c.toNat).X) k)) (k).toNat (ix [] ((elim f X [] c.toNat).X) ((elim f X [] c.toNat).piv.length:Int)) by exact (ph2_one hF hgX (by omega) (by omega) (by omega) hen h69).symm)) (rfl)))
  refine A_s K17 ?_
  refine A_C fun _ K19=>?_
  refine esk rfl ?_
  refine A_K ?_
  refine A_g (fun (i:Int)=>(⟨[(2,aInt cols),(3,aEx (.pointer (some ⟨b3_1,0,none⟩))),(8,aEx (vec (some b8_5) ((X).length) c15)),(9,aEx (vec rr3 (((elim f X [] c.toNat).piv).length) cc3)),(10,aInt ((elim f X [] c.toNat).piv.length:Int)),(11,aInt c),(13,aInt i)],[oVec rr3 cc3 3 1 false aInt ((elim f X [] c.toNat).piv),oVec (some b8_5) c15 22 1 false aInts (clrX f c ((elim f X [] c.toNat).piv.length:Int) (ph2 f c (elim f X [] c.toNat) (elim f X [] c.toNat).X k) i.toNat),oBox b3_1 24 [aInt f.P,aInt f.M,aSl 1 false aInt f.mod]]⟩:St)) (fun (i:Int)=>(0<=i)/\(i<=X.length)) (fun (i:Int)=>(X.length-i).toNat) 0 ⟨(by omega),(by omega)⟩ (A_I ⟨rfl,rfl,rfl,rfl,rfl,rfl,A_W (A_i (show 0=(0:Int) by rfl)),trivial⟩ (A_N (rfl) (A_N (A_n (show clrX f c ((elim f X [] c.toNat).piv.length:Int) (ph2 f c (elim f X [] c.toNat) (elim f X [] c.toNat).X k) (0:Int).toNat=ph2 f c (elim f X [] c.toNat) (elim f X [] c.toNat).X k by rfl)) (rfl)))) ?_
  rintro i ⟨i0,i1⟩
  show Ent _ ⟨_,[_,_,_]⟩ _
  have hcl:=length_clrX f c ((elim f X [] c.toNat).piv.length:Int) (ph2 f c (elim f X [] c.toNat) (elim f X [] c.toNat).X k) i.toNat
  rw [length_ph2] at hcl
  have hgA:=good_clrX hS (c:=c) (p:=((elim f X [] c.toNat).piv.length:Int)) (good_ph2 hS (c:=c) (s:=(elim f X [] c.toNat)) hgX (k:=k) (by omega) (by omega) (by omega)) (n:=i.toNat) (by rw [length_ph2];omega)
  have hrp:=wide_ix (good_wide hgA) (i:=((elim f X [] c.toNat).piv.length:Int)) (by omega) (by omega)
  refine A_C fun _ K21=>?_
  refine esr rfl fun _ K22=>?_
  refine A_A rfl (ok_lenEx rfl runUnderlying25 rfl) ?_
  refine A_A rfl (A_o rfl rfl) ?_
  refine enk K22 ?_
  refine A_E rfl (fun h91=>?_) (fun h91=>?_)
  ·refine esp K21 ?_
   refine A_C fun _ K23=>?_
   refine A_K ?_
   refine A_C fun _ K24=>?_
   refine ent_cut (⟨[(2,aInt cols),(3,aEx (.pointer (some ⟨b3_1,0,none⟩))),(8,aEx (vec (some b8_5) ((X).length) c15)),(9,aEx (vec rr3 (((elim f X [] c.toNat).piv).length) cc3)),(10,aInt ((elim f X [] c.toNat).piv.length:Int)),(11,aInt c),(13,aInt i),(106,aBool (decide ((i≠((elim f X [] c.toNat).piv.length:Int))/\((ix 0 (ix [] (clrX f c ((elim f X [] c.toNat).piv.length:Int) (ph2 f c (elim f X [] c.toNat) (elim f X [] c.toNat).X k) i.toNat) i) c)≠0))))],[oVec rr3 cc3 3 1 false aInt ((elim f X [] c.toNat).piv),oVec (some b8_5) c15 22 1 false aInts (clrX f c ((elim f X [] c.toNat).piv.length:Int) (ph2 f c (elim f X [] c.toNat) (elim f X [] c.toNat).X k) i.toNat),oBox b3_1 24 [aInt f.P,aInt f.M,aSl 1 false aInt f.mod]]⟩) ?_ ?_
   ·refine A_D ?_
    refine emm rfl ?_
    refine A_A rfl (A_y rfl rfl) ?_
    refine emm rfl ?_
    refine ent_guardXDt rfl rfl rfl rfl (fun hg97=>?_) (fun hg97=>?_)
    ·have hri:=wide_ix (good_wide hgA) (i:=i) (by omega) (by omega)
     refine emm rfl ?_
     refine A_M rfl rfl rfl rfl (decide_eq_true hg97) ?_
     refine emm rfl ?_
     refine A_M rfl rfl rfl rfl (decide_eq_true hg97) ?_
     refine A_A rfl (A_k sl25 rfl rfl (by omega) (by omega)) ?_
     refine A_M rfl rfl rfl rfl (decide_eq_true hg97) ?_
     refine A_A rfl (ok_loadV (k:=1) [] ti22 rfl rfl (by omega) (by omega)) ?_
     refine A_M rfl rfl rfl rfl (decide_eq_true hg97) ?_
     refine emm rfl ?_
     refine A_M rfl rfl rfl rfl (decide_eq_true hg97) ?_
     refine A_A rfl (A_d 0 sl22 rfl rfl (by omega) (by omega)) ?_
     refine A_M rfl rfl rfl rfl (decide_eq_true hg97) ?_
     refine A_A rfl (A_V ti3 rfl) ?_
     refine A_M rfl rfl rfl rfl (decide_eq_true hg97) ?_
     refine A_A rfl (A_y rfl rfl) ?_
     refine A_A rfl (A_l rfl (decide_eq_true hg97) rfl) ?_
     refine A_O ?_
     exact A_I ⟨rfl,rfl,rfl,rfl,rfl,rfl,rfl,A_Z (dq_Q ((and_iff_right hg97).trans Iff.rfl)),trivial⟩ rfl
    refine A_G rfl rfl rfl rfl (decide_eq_false hg97) ?_
    refine A_G rfl rfl rfl rfl (decide_eq_false hg97) ?_
    refine A_G rfl rfl rfl rfl (decide_eq_false hg97) ?_
    refine A_G rfl rfl rfl rfl (decide_eq_false hg97) ?_
    refine A_G rfl rfl rfl rfl (decide_eq_false hg97) ?_
    refine A_G rfl rfl rfl rfl (decide_eq_false hg97) ?_
    refine A_G rfl rfl rfl rfl (decide_eq_false hg97) ?_
    refine A_A rfl (A_r rfl (decide_eq_false hg97) rfl) ?_
    refine A_O ?_
    exact A_I ⟨rfl,rfl,rfl,rfl,rfl,rfl,rfl,A_Z (dq_F rfl (fun h=>hg97 h.1)),trivial⟩ rfl
   refine A_s K24 ?_
   refine A_E rfl (fun h106=>?_) (fun h106=>?_)
   ·have hri:=wide_ix (good_wide hgA) (i:=i) (by omega) (by omega)
    refine A_t 22 mixed (by kernel_rfl) (by kernel_rfl) (by kernel_rfl) ?_
    refine dw_o rfl (A_J rfl) ?_
    refine dw_o rfl (A_J rfl) ?_
    refine dw_o rfl (A_P (k:=2) ti24 rfl rfl rfl) ?_
    refine dw_o rfl (A_J rfl) ?_
    refine dw_o rfl (A_J rfl) ?_
    refine dw_o rfl (A_k sl25 rfl rfl (by omega) (by omega)) ?_
    refine dw_o rfl (ok_loadV (k:=1) [] ti22 rfl rfl (by omega) (by omega)) ?_
    refine dw_o rfl (A_P (k:=2) ti24 rfl rfl rfl) ?_
    refine dw_o rfl (A_J rfl) ?_
    refine dw_o rfl (A_J rfl) ?_
    refine dw_o rfl (A_k sl25 rfl rfl (by omega) (by omega)) ?_
    refine dw_o rfl (ok_loadV (k:=1) [] ti22 rfl rfl (by omega) (by omega)) ?_
    refine dw_o rfl (A_J rfl) ?_
    refine dw_o rfl (A_d 0 sl22 rfl rfl (by omega) (by omega)) ?_
    refine dw_o rfl (A_V ti3 rfl) ?_
    refine dw_o rfl (A_S (rNeg_ok f (ix 0 (ix [] (clrX f c ((elim f X [] c.toNat).piv.length:Int) (ph2 f c (elim f X [] c.toNat) (elim f X [] c.toNat).X k) i.toNat) i) c) ‹_›) rfl) ?_
    refine dw_o rfl (A_J rfl) ?_
    refine dw_o rfl (A_J rfl) ?_
    refine dw_o rfl (A_k sl25 rfl rfl (by omega) (by omega)) ?_
    refine dw_o rfl (ok_loadV (k:=1) [] ti22 rfl rfl (by omega) (by omega)) ?_
    refine dw_o rfl (A_S (CtrF.ctr (CtrF.sl (rAddTo_ok f (ix [] (clrX f c ((elim f X [] c.toNat).piv.length:Int) (ph2 f c (elim f X [] c.toNat) (elim f X [] c.toNat).X k) i.toNat) i) (negF f (ix 0 (ix [] (clrX f c ((elim f X [] c.toNat).piv.length:Int) (ph2 f c (elim f X [] c.toNat) (elim f X [] c.toNat).X k) i.toNat) i) c)) (ix [] (clrX f c ((elim f X [] c.toNat).piv.length:Int) (ph2 f c (elim f X [] c.toNat) (elim f X [] c.toNat).X k) i.toNat) ((elim f X [] c.toNat).piv.length:Int)) ‹_› (by omega) (by omega)))) rfl) ?_
    refine dw_o rfl (A_k sl25 rfl rfl (by omega) (by omega)) ?_
    refine dw_nil ?_
    refine ent_storeV (k:=1) (z:=addTo f (ix [] (clrX f c ((elim f X [] c.toNat).piv.length:Int) (ph2 f c (elim f X [] c.toNat) (elim f X [] c.toNat).X k) i.toNat) i) (negF f (ix 0 (ix [] (clrX f c ((elim f X [] c.toNat).piv.length:Int) (ph2 f c (elim f X [] c.toNat) (elim f X [] c.toNat).X k) i.toNat) i) c)) (ix [] (clrX f c ((elim f X [] c.toNat).piv.length:Int) (ph2 f c (elim f X [] c.toNat) (elim f X [] c.toNat).X k) i.toNat) ((elim f X [] c.toNat).piv.length:Int))) ti22 rfl rfl rfl (A_u A_c) (by omega) (by omega) ?_
    refine enk K23 ?_
    refine A_D ?_
    refine emm rfl ?_
    refine A_A rfl (A_m rfl rfl (by omega) (by omega)) ?_
    refine emm rfl ?_
    refine A_O ?_
    refine A_X (s:=(i)) (i+1) ⟨(by omega),‹_›⟩ (by omega) (A_I ⟨rfl,rfl,rfl,rfl,rfl,rfl,rfl,trivial⟩ (A_N (rfl) (A_N (A_n (show clrX f c ((elim f X [] c.toNat).piv.length:Int) (ph2 f c (elim f X [] c.toNat) (elim f X [] c.toNat).X k) (i+1).toNat=List.set (clrX f c ((elim f X [] c.toNat).piv.length:Int) (ph2 f c (elim f X [] c.toNat) (elim f X [] c.toNat).X k) i.toNat) (i).toNat (addTo f (ix [] (clrX f c ((elim f X [] c.toNat).piv.length:Int) (ph2 f c (elim f X [] c.toNat) (elim f X [] c.toNat).X k) i.toNat) i) (negF f (ix 0 (ix [] (clrX f c ((elim f X [] c.toNat).piv.length:Int) (ph2 f c (elim f X [] c.toNat) (elim f X [] c.toNat).X k) i.toNat) i) c)) (ix [] (clrX f c ((elim f X [] c.toNat).piv.length:Int) (ph2 f c (elim f X [] c.toNat) (elim f X [] c.toNat).X k) i.toNat) ((elim f X [] c.toNat).piv.length:Int))) by exact clrX_go i0 h106)) (rfl))))
   refine esp K23 ?_
   refine A_D ?_
   refine emm rfl ?_
   refine A_A rfl (A_m rfl rfl (by omega) (by omega)) ?_
   refine emm rfl ?_
   refine A_O ?_
   refine A_X (s:=(i)) (i+1) ⟨(by omega),‹_›⟩ (by omega) (A_I ⟨rfl,rfl,rfl,rfl,rfl,rfl,rfl,trivial⟩ (A_N (rfl) (A_N (A_n (show clrX f c ((elim f X [] c.toNat).piv.length:Int) (ph2 f c (elim f X [] c.toNat) (elim f X [] c.toNat).X k) (i+1).toNat=clrX f c ((elim f X [] c.toNat).piv.length:Int) (ph2 f c (elim f X [] c.toNat) (elim f X [] c.toNat).X k) i.toNat by exact clrX_stay i0 h106)) (rfl))))
  have hie:i.toNat=X.length:=by omega
  refine A_e ?_
  refine A_s K19 ?_
  refine esr rfl fun _ K25=>?_
  refine ent_appendL (k:=0) (enc:=aInt) (y:=c) rfl rfl vt22 rfl rfl rfl rfl ((A_u (A_F _))) (by omega) (by omega) (by decide) (fun b132_6 c132_6=>?_)
  refine emm rfl ?_
  refine enk K25 ?_
  refine A_D ?_
  refine emm rfl ?_
  refine A_A rfl (A_m rfl rfl (by omega) (by omega)) ?_
  refine emm rfl ?_
  refine enk K9 ?_
  refine A_D ?_
  refine emm rfl ?_
  refine A_A rfl (A_m rfl rfl (by omega) (by omega)) ?_
  refine emm rfl ?_
  refine A_O ?_
  refine A_X (s:=(c,rr3,cc3)) (c+1,(some b132_6),c132_6) ⟨(by omega),(by omega)⟩ (by dsimp only;omega) (A_I ⟨rfl,rfl,A_W (av_vec rfl),A_W (av_vec (congrArg List.length (show (elim f X [] (c+1).toNat).piv=((elim f X [] c.toNat).piv)++[c] by rw [hne.2]).symm)),A_W (A_i (show ((elim f X [] c.toNat).piv.length:Int)+1=((elim f X [] (c+1).toNat).piv.length:Int) by rw [hne.2];simp)),rfl,trivial⟩ (A_N (A_n (show (elim f X [] (c+1).toNat).piv=((elim f X [] c.toNat).piv)++[c] by rw [hne.2])) (A_N (A_n (show (elim f X [] (c+1).toNat).X=clrX f c ((elim f X [] c.toNat).piv.length:Int) (ph2 f c (elim f X [] c.toNat) (elim f X [] c.toNat).X k) i.toNat by rw [hne.1,hie])) (rfl))))
 have hfin:=elim_end (f:=f) (X:=X) (Y:=[]) c0 c1 (fun h=>h24 ⟨h.1,by omega⟩)
 refine A_e ?_
 refine A_s K5 ?_
 refine esk rfl ?_
 refine A_R ?_
 exact retR2 (.inr rfl) results114 (A_H (A_T rfl (cv_vec (k:=1) (off_x rfl) (by simp_all) (by rw [hfin])))) (A_H (A_T rfl (cv_vec (k:=0) (off_x rfl) rfl (by rw [hfin]))))
end Go.Proofs.YtcilbmggiahciaaGreat

