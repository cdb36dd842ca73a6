/-
  Walks of functions of the program and the reference.
-/
import Derived.Test.YtaipghchkamajaaS3
open Go Go.Cw
namespace Go.Proofs.Ytaipghchkamajaa
open Try
set_option maxRecDepth 100000
set_option linter.unusedVariables false
set_option linter.unusedSimpArgs false
theorem fileOf_ok (r:Rgn) (M:List (List Int)) (R:RgOk r) (hl:(M.length:Int)=r.D) (hw:∀i:Int,0<=i->i<M.length->((ix [] M i).length:Int)=rgA r):Ctr Try.prog 80 [aRgn r,aSl 1 false aInts M] (aSl 1 false aInt (filR r M)):=by
 have hrg:=R.rng
 have hrn:=R.len
 have hra:=rgA_le R
 unfold rgBad at hrg
 have hA1:r.Kind=1->rgA r=r.K-1:=fun h=>by unfold rgA;rw [if_neg (by omega)]
 have hA0:r.Kind=0->rgA r=r.D:=fun h=>by unfold rgA;rw [if_pos h]
 refine ctr_of Try.call80 func80 rfl rfl ?_
 intro w O
 refine A_o 0 2 rfl rfl (fun hlen0_2=>?_)
 refine A_o 0 6 rfl rfl (fun hlen0_6=>?_)
 refine ent_len 1 rfl (fun hlen1=>?_)
 refine esr rfl fun _ K1=>?_
 refine A_y rfl rfl (AllOne.mem ⟨(A_N _),(A_N _),A_j,(A_N _),(A_N _),(A_N _),A_j,trivial⟩) (fun b2_1=>?_)
 refine emm rfl ?_
 refine enk K1 ?_
 refine esk rfl ?_
 refine A_C fun _ K3=>?_
 refine esr rfl fun _ K4=>?_
 refine A_A rfl (A_B runUnderlying53 rfl sizeOf3 (by decide) rfl) ?_
 refine A_A rfl (A_I (k:=0) isAgg3 rfl rfl rfl) ?_
 refine A_A rfl (ok_eql rfl rfl) ?_
 refine enk K4 ?_
 refine A_G rfl (fun h15=>?_) (fun h15=>?_)
 ·have hpl2:(([M.take (rgA r).toNat,M.drop (rgA r).toNat]:List (List (List Int))).length:Int)=2:=rfl
  have hA:=hA1 h15
  refine esr rfl fun _ K5=>?_
  refine A_A rfl (A_R (k:=0) ti53 rfl rfl rfl) ?_
  refine A_A rfl (A_W (sizes_ok r ‹_›) rfl) ?_
  refine emm rfl ?_
  refine A_A rfl (A_T rfl rfl) ?_
  refine A_A rfl (A_T rfl rfl) ?_
  refine emm rfl ?_
  refine enk K5 ?_
  refine A_C fun _ K6=>?_
  refine A_C fun _ K7=>?_
  refine A_w 9 mixed (by kernel_rfl) (by kernel_rfl) (by kernel_rfl) ?_
  refine dw_o rfl (A_D rfl) ?_
  refine dw_o rfl (A_D rfl) ?_
  refine dw_o rfl (ok_sliceTo sl65 rfl rfl (by omega) (by omega)) ?_
  refine dw_o rfl (A_D rfl) ?_
  refine dw_o rfl (A_D rfl) ?_
  refine dw_o rfl (ok_sliceFrom sl65 rfl rfl (by omega) (by omega)) ?_
  refine dw_o rfl (OpOK.as (A:=aFull 1 false aRows [List.take (rgA r).toNat M,List.drop (rgA r).toNat M]) (by exact ok_buildNF aRows [List.take (rgA r).toNat M,List.drop (rgA r).toNat M] vt147 (by decide) rfl (⟨0,1,rfl,.inl ⟨rfl,_,rfl,A_j,rfl,⟨1,1,rfl,.inl ⟨rfl,_,rfl,A_j,rfl,rfl⟩⟩⟩⟩) rfl) aFull_sl) ?_
  refine dw_o rfl (ok_len rfl runUnderlying147 rfl) ?_
  refine dw_o rfl (A_D rfl) ?_
  refine dw_nil ?_
  refine enk K7 ?_
  refine A_K ?_
  refine ent_open 3 1 false aInt (fun _=>rfl) ?_
  refine A_d (fun (ss:Int×Option Nat×Nat)=>match ss with | (i,rr3,cc3)=>(⟨[(5,aEx (vec rr3 ((flo (fun p=>triL (ix [] [M.take (rgA r).toNat,M.drop (rgA r).toNat] p) (rgA r).toNat) i.toNat).length) cc3)),(7,aInt (rgA r)),(27,aSl 1 false aRows [List.take (rgA r).toNat M,List.drop (rgA r).toNat M]),(28,aInt (↑[List.take (rgA r).toNat M,List.drop (rgA r).toNat M].length:Int)),(29,aInt i)],[oVec rr3 cc3 3 1 false aInt (flo (fun p=>triL (ix [] [M.take (rgA r).toNat,M.drop (rgA r).toNat] p) (rgA r).toNat) i.toNat),oBox b2_1 53 [aInt r.F.P,aInt r.F.M,aSl 1 false aInt r.F.mod,aInt r.Kind,aInt r.K,aInt r.D,aSl 1 false aInt r.Points]]⟩:St)) (fun (ss:Int×Option Nat×Nat)=>match ss with | (i,rr3,cc3)=>(0<=i)/\(i<=2)) (fun (ss:Int×Option Nat×Nat)=>match ss with | (i,rr3,cc3)=>(2-i).toNat) (0,none,0) ⟨(by omega),(by omega)⟩ (A_J ⟨A_V ((show aEx (vec none ([]:List _).length 0)=aEx (vec none ((flo (fun p=>triL (ix [] [M.take (rgA r).toNat,M.drop (rgA r).toNat] p) (rgA r).toNat) (0:Int).toNat).length) 0) from av_vec (congrArg List.length (show flo (fun p=>triL (ix [] [M.take (rgA r).toNat,M.drop (rgA r).toNat] p) (rgA r).toNat) (0:Int).toNat = [] by rfl).symm))),rfl,rfl,rfl,A_V (A_p (show 0=(0:Int) by rfl)),trivial⟩ (A_F (A_s (show flo (fun p=>triL (ix [] [M.take (rgA r).toNat,M.drop (rgA r).toNat] p) (rgA r).toNat) (0:Int).toNat = [] by rfl)) (rfl))) ?_
  rintro ⟨i,rr3,cc3⟩ ⟨h0,h1⟩
  show Ent _ ⟨_,[_,_]⟩ _
  have lf1:=flo_le1 (M:=M) (a:=rgA r) (by omega) (by omega) (by omega) hw h0 h1
  refine esr rfl fun _ K8=>?_
  refine A_A rfl (A_r rfl rfl) ?_
  refine enk K8 ?_
  refine A_C fun _ K9=>?_
  refine A_G rfl (fun h30=>?_) (fun h30=>?_)
  ·have hpp:=pp_len (M:=M) (a:=rgA r) (by omega) (by omega) hw h0 (by omega)
   have hpp1:=hpp.1
   refine esp K9 ?_
   refine A_C fun _ K10=>?_
   refine A_K ?_
   refine esr rfl fun _ K11=>?_
   refine A_A rfl (A_a [] sl147 rfl rfl (by omega) (by omega)) ?_
   refine A_A rfl (A_P ti65 rfl) ?_
   refine emm rfl ?_
   refine enk K11 ?_
   refine esk rfl ?_
   refine A_K ?_
   refine A_d (fun (ss:Int×Option Nat×Nat)=>match ss with | (j,rr4,cc4)=>(⟨[(5,aEx (vec rr4 ((flo (fun p=>triL (ix [] [M.take (rgA r).toNat,M.drop (rgA r).toNat] p) (rgA r).toNat) i.toNat++flo (fun u=>(ix [] (ix [] [M.take (rgA r).toNat,M.drop (rgA r).toNat] i) u).drop u.toNat) j.toNat).length) cc4)),(7,aInt (rgA r)),(9,aSl 1 false aInts (ix [] [List.take (rgA r).toNat M,List.drop (rgA r).toNat M] i)),(27,aSl 1 false aRows [List.take (rgA r).toNat M,List.drop (rgA r).toNat M]),(28,aInt (↑[List.take (rgA r).toNat M,List.drop (rgA r).toNat M].length:Int)),(29,aInt i),(33,aInt (rgA r)),(34,aInt j)],[oVec rr4 cc4 3 1 false aInt (flo (fun p=>triL (ix [] [M.take (rgA r).toNat,M.drop (rgA r).toNat] p) (rgA r).toNat) i.toNat++flo (fun u=>(ix [] (ix [] [M.take (rgA r).toNat,M.drop (rgA r).toNat] i) u).drop u.toNat) j.toNat),oBox b2_1 53 [aInt r.F.P,aInt r.F.M,aSl 1 false aInt r.F.mod,aInt r.Kind,aInt r.K,aInt r.D,aSl 1 false aInt r.Points]]⟩:St)) (fun (ss:Int×Option Nat×Nat)=>match ss with | (j,rr4,cc4)=>(0<=j)/\(j<=rgA r)) (fun (ss:Int×Option Nat×Nat)=>match ss with | (j,rr4,cc4)=>(rgA r-j).toNat) (0,rr3,cc3) ⟨(by omega),(by omega)⟩ (A_J ⟨A_V (av_vec (congrArg List.length (show flo (fun p=>triL (ix [] [M.take (rgA r).toNat,M.drop (rgA r).toNat] p) (rgA r).toNat) i.toNat++flo (fun u=>(ix [] (ix [] [M.take (rgA r).toNat,M.drop (rgA r).toNat] i) u).drop u.toNat) (0:Int).toNat=flo (fun p=>triL (ix [] [M.take (rgA r).toNat,M.drop (rgA r).toNat] p) (rgA r).toNat) i.toNat by exact List.append_nil _).symm)),rfl,rfl,rfl,rfl,rfl,rfl,A_V (A_p (show 0=(0:Int) by rfl)),trivial⟩ (A_F (A_s (show flo (fun p=>triL (ix [] [M.take (rgA r).toNat,M.drop (rgA r).toNat] p) (rgA r).toNat) i.toNat++flo (fun u=>(ix [] (ix [] [M.take (rgA r).toNat,M.drop (rgA r).toNat] i) u).drop u.toNat) (0:Int).toNat=flo (fun p=>triL (ix [] [M.take (rgA r).toNat,M.drop (rgA r).toNat] p) (rgA r).toNat) i.toNat by exact List.append_nil _)) (rfl))) ?_
   rintro ⟨j,rr4,cc4⟩ ⟨j0,j1⟩
   show Ent _ ⟨_,[_,_]⟩ _
   have lf2:=flo_le2 (M:=M) (a:=rgA r) (by omega) (by omega) (by omega) hw h0 (show i<2 by omega) j0 j1
   refine esr rfl fun _ K13=>?_
   refine A_A rfl (A_r rfl rfl) ?_
   refine enk K13 ?_
   refine A_C fun _ K14=>?_
   refine A_G rfl (fun h35=>?_) (fun h35=>?_)
   ·have hpr:=hpp.2 j j0 h35
    refine esp K14 ?_
    refine A_C fun _ K15=>?_
    refine A_K ?_
    refine esk rfl ?_
    refine A_H ?_
    refine emm rfl ?_
    refine A_A rfl (A_a [] sl65 rfl rfl (by omega) (by omega)) ?_
    refine A_A rfl (A_P ti29 rfl) ?_
    refine emm rfl ?_
    refine A_A rfl (ok_sliceFrom sl29 rfl rfl (by omega) (by omega)) ?_
    refine ent_appendS (k:=0) rfl vt29 rfl rfl rfl rfl (A_x A_h) (by simp;omega) (by simp;omega) (fun r44_4 cr44_4=>?_)
    refine emm rfl ?_
    refine enk K15 ?_
    refine A_H ?_
    refine A_A rfl (A_n rfl rfl (by omega) (by omega)) ?_
    refine emm rfl ?_
    refine A_O ?_
    refine A_U (s:=(j,rr4,cc4)) (j+1,r44_4,cr44_4) ⟨(by omega),‹_›⟩ (by dsimp only;omega) (A_J ⟨A_V (av_vec (congrArg List.length (show flo (fun p=>triL (ix [] [M.take (rgA r).toNat,M.drop (rgA r).toNat] p) (rgA r).toNat) i.toNat++flo (fun u=>(ix [] (ix [] [M.take (rgA r).toNat,M.drop (rgA r).toNat] i) u).drop u.toNat) (j+1).toNat=(flo (fun p=>triL (ix [] [M.take (rgA r).toNat,M.drop (rgA r).toNat] p) (rgA r).toNat) i.toNat++flo (fun u=>(ix [] (ix [] [M.take (rgA r).toNat,M.drop (rgA r).toNat] i) u).drop u.toNat) j.toNat)++(List.drop (j).toNat (ix [] (ix [] [List.take (rgA r).toNat M,List.drop (rgA r).toNat M] i) j)) by rw [flo_step _ _ j0]).symm)),rfl,rfl,rfl,rfl,rfl,rfl,rfl,trivial⟩ (A_F (A_s (show flo (fun p=>triL (ix [] [M.take (rgA r).toNat,M.drop (rgA r).toNat] p) (rgA r).toNat) i.toNat++flo (fun u=>(ix [] (ix [] [M.take (rgA r).toNat,M.drop (rgA r).toNat] i) u).drop u.toNat) (j+1).toNat=(flo (fun p=>triL (ix [] [M.take (rgA r).toNat,M.drop (rgA r).toNat] p) (rgA r).toNat) i.toNat++flo (fun u=>(ix [] (ix [] [M.take (rgA r).toNat,M.drop (rgA r).toNat] i) u).drop u.toNat) j.toNat)++(List.drop (j).toNat (ix [] (ix [] [List.take (rgA r).toNat M,List.drop (rgA r).toNat M] i) j)) by rw [flo_step _ _ j0])) (rfl)))
   refine A_e ?_
   refine A_0 K10 ?_
   refine A_H ?_
   refine A_A rfl (A_n rfl rfl (by omega) (by omega)) ?_
   refine emm rfl ?_
   refine A_O ?_
   refine A_U (s:=(i,rr3,cc3)) (i+1,rr4,cc4) ⟨(by omega),‹_›⟩ (by dsimp only;omega) (A_J ⟨A_V (av_vec (congrArg List.length (show flo (fun p=>triL (ix [] [M.take (rgA r).toNat,M.drop (rgA r).toNat] p) (rgA r).toNat) (i+1).toNat=flo (fun p=>triL (ix [] [M.take (rgA r).toNat,M.drop (rgA r).toNat] p) (rgA r).toNat) i.toNat++flo (fun u=>(ix [] (ix [] [M.take (rgA r).toNat,M.drop (rgA r).toNat] i) u).drop u.toNat) j.toNat by rw [flo_succ _ h0,show j=rgA r by omega];rfl).symm)),rfl,rfl,rfl,rfl,trivial⟩ (A_F (A_s (show flo (fun p=>triL (ix [] [M.take (rgA r).toNat,M.drop (rgA r).toNat] p) (rgA r).toNat) (i+1).toNat=flo (fun p=>triL (ix [] [M.take (rgA r).toNat,M.drop (rgA r).toNat] p) (rgA r).toNat) i.toNat++flo (fun u=>(ix [] (ix [] [M.take (rgA r).toNat,M.drop (rgA r).toNat] i) u).drop u.toNat) j.toNat by rw [flo_succ _ h0,show j=rgA r by omega];rfl)) (rfl)))
  refine A_e ?_
  refine A_0 K6 ?_
  refine esk rfl ?_
  refine A_Q ?_
  exact retR1 (.inr rfl) results80 (A_L (A_S rfl (cv_vec (k:=0) (off_x rfl) rfl (by rw [filR_1 h15,show i=2 by omega];rfl))))
 have hA:=hA0 (by omega)
 refine esp K3 ?_
 refine A_C fun _ K18=>?_
 refine esr rfl fun _ K19=>?_
 refine A_A rfl (A_B runUnderlying53 rfl sizeOf3 (by decide) rfl) ?_
 refine A_A rfl (A_I (k:=0) isAgg3 rfl rfl rfl) ?_
 refine emm rfl ?_
 refine enk K19 ?_
 refine A_K ?_
 refine ent_open 3 1 false aInt (fun _=>rfl) ?_
 refine A_d (fun (ss:Int×Option Nat×Nat)=>match ss with | (i,rr7,cc7)=>(⟨[(1,aSl 1 false aInts M),(2,aEx (.pointer (some ⟨b2_1,0,none⟩))),(5,aEx (vec rr7 ((flo (fun u=>((ix [] M u).take r.K.toNat).drop u.toNat) i.toNat).length) cc7)),(49,aInt r.K),(50,aInt i)],[oVec rr7 cc7 3 1 false aInt (flo (fun u=>((ix [] M u).take r.K.toNat).drop u.toNat) i.toNat),oBox b2_1 53 [aInt r.F.P,aInt r.F.M,aSl 1 false aInt r.F.mod,aInt r.Kind,aInt r.K,aInt r.D,aSl 1 false aInt r.Points]]⟩:St)) (fun (ss:Int×Option Nat×Nat)=>match ss with | (i,rr7,cc7)=>(0<=i)/\(i<=r.K)) (fun (ss:Int×Option Nat×Nat)=>match ss with | (i,rr7,cc7)=>(r.K-i).toNat) (0,none,0) ⟨(by omega),(by omega)⟩ (A_J ⟨rfl,rfl,A_V ((show aEx (vec none ([]:List _).length 0)=aEx (vec none ((flo (fun u=>((ix [] M u).take r.K.toNat).drop u.toNat) (0:Int).toNat).length) 0) from av_vec (congrArg List.length (show flo (fun u=>((ix [] M u).take r.K.toNat).drop u.toNat) (0:Int).toNat = [] by rfl).symm))),rfl,A_V (A_p (show 0=(0:Int) by rfl)),trivial⟩ (A_F (A_s (show flo (fun u=>((ix [] M u).take r.K.toNat).drop u.toNat) (0:Int).toNat = [] by rfl)) (rfl))) ?_
 rintro ⟨i,rr7,cc7⟩ ⟨h0,h1⟩
 show Ent _ ⟨_,[_,_]⟩ _
 have lf3:=(flo_le3 (M:=M) (K:=r.K) (a:=rgA r) (by omega) (by omega) hw h1 (by omega)).1
 refine esr rfl fun _ K20=>?_
 refine A_A rfl (A_r rfl rfl) ?_
 refine enk K20 ?_
 refine A_C fun _ K21=>?_
 refine A_G rfl (fun h51=>?_) (fun h51=>?_)
 ·have hri:=hw i h0 (by omega)
  refine esp K21 ?_
  refine A_C fun _ K22=>?_
  refine A_K ?_
  refine esk rfl ?_
  refine A_w 9 mixed (by kernel_rfl) (by kernel_rfl) (by kernel_rfl) ?_
  refine dw_o rfl (A_D rfl) ?_
  refine dw_o rfl (A_D rfl) ?_
  refine dw_o rfl (A_D rfl) ?_
  refine dw_o rfl (A_a [] sl65 rfl rfl (by omega) (by omega)) ?_
  refine dw_o rfl (A_P ti29 rfl) ?_
  refine dw_o rfl (A_D rfl) ?_
  refine dw_o rfl (A_B runUnderlying53 rfl sizeOf3 (by decide) rfl) ?_
  refine dw_o rfl (A_I (k:=1) isAgg3 rfl rfl rfl) ?_
  refine dw_o rfl (ok_slice2 sl29 rfl rfl rfl (by omega) (by omega) (by omega)) ?_
  refine dw_nil ?_
  refine ent_appendS (k:=0) rfl vt29 rfl rfl rfl rfl (A_x A_h) (by simp;omega) (by simp;omega) (fun r62_7 cr62_7=>?_)
  refine emm rfl ?_
  refine enk K22 ?_
  refine A_H ?_
  refine A_A rfl (A_n rfl rfl (by omega) (by omega)) ?_
  refine emm rfl ?_
  refine A_O ?_
  refine A_U (s:=(i,rr7,cc7)) (i+1,r62_7,cr62_7) ⟨(by omega),‹_›⟩ (by dsimp only;omega) (A_J ⟨rfl,rfl,A_V (av_vec (congrArg List.length (show flo (fun u=>((ix [] M u).take r.K.toNat).drop u.toNat) (i+1).toNat=(flo (fun u=>((ix [] M u).take r.K.toNat).drop u.toNat) i.toNat)++((List.take (r.K).toNat (ix [] M i)).drop (i).toNat) by rw [flo_succ _ h0]).symm)),rfl,rfl,trivial⟩ (A_F (A_s (show flo (fun u=>((ix [] M u).take r.K.toNat).drop u.toNat) (i+1).toNat=(flo (fun u=>((ix [] M u).take r.K.toNat).drop u.toNat) i.toNat)++((List.take (r.K).toNat (ix [] M i)).drop (i).toNat) by rw [flo_succ _ h0])) (rfl)))
 refine A_e ?_
 refine A_0 K18 ?_
 refine A_C fun _ K24=>?_
 refine esr rfl fun _ K25=>?_
 refine A_A rfl (A_B runUnderlying53 rfl sizeOf3 (by decide) rfl) ?_
 refine A_A rfl (A_I (k:=1) isAgg3 rfl rfl rfl) ?_
 refine emm rfl ?_
 refine enk K25 ?_
 refine A_K ?_
 refine A_d (fun (ss:Int×Option Nat×Nat)=>match ss with | (k,rr9,cc9)=>(⟨[(1,aSl 1 false aInts M),(2,aEx (.pointer (some ⟨b2_1,0,none⟩))),(5,aEx (vec rr9 ((flo (fun u=>((ix [] M u).take r.K.toNat).drop u.toNat) r.K.toNat++flo (fun u=>(ix [] M u).drop r.K.toNat) k.toNat).length) cc9)),(65,aInt r.K),(66,aInt k)],[oVec rr9 cc9 3 1 false aInt (flo (fun u=>((ix [] M u).take r.K.toNat).drop u.toNat) r.K.toNat++flo (fun u=>(ix [] M u).drop r.K.toNat) k.toNat),oBox b2_1 53 [aInt r.F.P,aInt r.F.M,aSl 1 false aInt r.F.mod,aInt r.Kind,aInt r.K,aInt r.D,aSl 1 false aInt r.Points]]⟩:St)) (fun (ss:Int×Option Nat×Nat)=>match ss with | (k,rr9,cc9)=>(0<=k)/\(k<=r.K)) (fun (ss:Int×Option Nat×Nat)=>match ss with | (k,rr9,cc9)=>(r.K-k).toNat) (0,rr7,cc7) ⟨(by omega),(by omega)⟩ (A_J ⟨rfl,rfl,A_V (av_vec (congrArg List.length (show flo (fun u=>((ix [] M u).take r.K.toNat).drop u.toNat) r.K.toNat++flo (fun u=>(ix [] M u).drop r.K.toNat) (0:Int).toNat=flo (fun u=>((ix [] M u).take r.K.toNat).drop u.toNat) i.toNat by rw [show i=r.K by omega];exact List.append_nil _).symm)),rfl,A_V (A_p (show 0=(0:Int) by rfl)),trivial⟩ (A_F (A_s (show flo (fun u=>((ix [] M u).take r.K.toNat).drop u.toNat) r.K.toNat++flo (fun u=>(ix [] M u).drop r.K.toNat) (0:Int).toNat=flo (fun u=>((ix [] M u).take r.K.toNat).drop u.toNat) i.toNat by rw [show i=r.K by omega];exact List.append_nil _)) (rfl))) ?_
 rintro ⟨k,rr9,cc9⟩ ⟨k0,k1⟩
 show Ent _ ⟨_,[_,_]⟩ _
 have lf4:=(flo_le3 (M:=M) (K:=r.K) (a:=rgA r) (by omega) (by omega) hw k1 (by omega)).2
 have lf5:=(flo_le3 (M:=M) (K:=r.K) (a:=rgA r) (by omega) (by omega) hw (Int.le_refl r.K) (by omega)).1
 refine esr rfl fun _ K26=>?_
 refine A_A rfl (A_r rfl rfl) ?_
 refine enk K26 ?_
 refine A_C fun _ K27=>?_
 refine A_G rfl (fun h67=>?_) (fun h67=>?_)
 ·have hrk:=hw k k0 (by omega)
  refine esp K27 ?_
  refine A_C fun _ K28=>?_
  refine A_K ?_
  refine esk rfl ?_
  refine A_w 8 mixed (by kernel_rfl) (by kernel_rfl) (by kernel_rfl) ?_
  refine dw_o rfl (A_D rfl) ?_
  refine dw_o rfl (A_D rfl) ?_
  refine dw_o rfl (A_D rfl) ?_
  refine dw_o rfl (A_a [] sl65 rfl rfl (by omega) (by omega)) ?_
  refine dw_o rfl (A_P ti29 rfl) ?_
  refine dw_o rfl (A_B runUnderlying53 rfl sizeOf3 (by decide) rfl) ?_
  refine dw_o rfl (A_I (k:=1) isAgg3 rfl rfl rfl) ?_
  refine dw_o rfl (ok_sliceFrom sl29 rfl rfl (by omega) (by omega)) ?_
  refine dw_nil ?_
  refine ent_appendS (k:=0) rfl vt29 rfl rfl rfl rfl (A_x A_h) (by simp;omega) (by simp;omega) (fun r77_9 cr77_9=>?_)
  refine emm rfl ?_
  refine enk K28 ?_
  refine A_H ?_
  refine A_A rfl (A_n rfl rfl (by omega) (by omega)) ?_
  refine emm rfl ?_
  refine A_O ?_
  refine A_U (s:=(k,rr9,cc9)) (k+1,r77_9,cr77_9) ⟨(by omega),‹_›⟩ (by dsimp only;omega) (A_J ⟨rfl,rfl,A_V (av_vec (congrArg List.length (show flo (fun u=>((ix [] M u).take r.K.toNat).drop u.toNat) r.K.toNat++flo (fun u=>(ix [] M u).drop r.K.toNat) (k+1).toNat=(flo (fun u=>((ix [] M u).take r.K.toNat).drop u.toNat) r.K.toNat++flo (fun u=>(ix [] M u).drop r.K.toNat) k.toNat)++(List.drop (r.K).toNat (ix [] M k)) by rw [flo_step _ _ k0]).symm)),rfl,rfl,trivial⟩ (A_F (A_s (show flo (fun u=>((ix [] M u).take r.K.toNat).drop u.toNat) r.K.toNat++flo (fun u=>(ix [] M u).drop r.K.toNat) (k+1).toNat=(flo (fun u=>((ix [] M u).take r.K.toNat).drop u.toNat) r.K.toNat++flo (fun u=>(ix [] M u).drop r.K.toNat) k.toNat)++(List.drop (r.K).toNat (ix [] M k)) by rw [flo_step _ _ k0])) (rfl)))
 refine A_e ?_
 refine A_0 K24 ?_
 refine esk rfl ?_
 refine A_Q ?_
 exact retR1 (.inr rfl) results80 (A_L (A_S rfl (cv_vec (k:=0) (off_x rfl) rfl (by rw [filR_0 h15,show k=r.K by omega]))))
end Go.Proofs.Ytaipghchkamajaa

