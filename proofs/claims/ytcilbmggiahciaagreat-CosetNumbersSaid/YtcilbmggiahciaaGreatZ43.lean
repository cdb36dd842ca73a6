/-
  Walks of functions of the program and the reference.
-/
import Derived.Test.YtcilbmggiahciaaGreatZ42
open Go Go.Cw
namespace Go.Proofs.YtcilbmggiahciaaGreat
open Tryz
set_option maxRecDepth 100000
set_option linter.unusedVariables false
set_option linter.unusedSimpArgs false

theorem rLeader_ok (c:Cod) (ls:List Lab) (s:Int) (hc:csE c=0) (h:Prv c ls) (s0:0<=s) (s1:s<c.F.q^(dua c).Gen.length):Ctr Tryz.prog 18 [aCod c,aSl 3 true aLab ls,aInt s] (aSl 1 false aInt (leadW c ls s)):=by
 have hcs:=csE_zero.1 hc
 have hk:=hcs.1
 have hqb:=hk.fld.1.bd
 have hq2:=hk.q2
 have hdd:=hk.dim_dua
 have hn64:=hk.n64
 have hn1:=hk.n1
 have hct:=hcs.2
 have hlen:=h.len
 have ltn:=length_turnL (dua c).Gen c.N
 refine A_p Tryz.call18 func18 rfl rfl ?_
 intro w O
 refine A_Y 0 2 rfl rfl (fun hlen0_2=>?_)
 refine A_Y 0 4 rfl rfl (fun hlen0_4=>?_)
 refine A_x 1 rfl (fun hlen1=>?_)
 refine esr rfl fun _ K1=>?_
 refine A_h rfl rfl (AllOne.mem ⟨(A_F _),(A_F _),A_c,(A_F _),A_c,trivial⟩) (fun b3_1=>?_)
 refine emm rfl ?_
 refine enk K1 ?_
 refine esr rfl fun _ K2=>?_
 refine A_A rfl (A_P (k:=0) ti27 rfl rfl rfl) ?_
 refine A_A rfl (A_S (rCols_ok c hk) rfl) ?_
 refine emm rfl ?_
 refine enk K2 ?_
 refine esr rfl fun _ K3=>?_
 refine A_A rfl (A_B runUnderlying27 rfl sizeOf3 (by decide) rfl) ?_
 refine A_A rfl (A_L (k:=0) isAgg3 rfl rfl rfl) ?_
 refine ent_make aInt 0 rfl vt22 rfl rfl (by omega) (by omega) (by omega) (fun _ _=>rfl) (AllV.mem ⟨rfl,trivial⟩) (fun b14_2=>?_)
 refine emm rfl ?_
 refine enk K3 ?_
 refine A_C fun _ K4=>?_
 refine A_K ?_
 refine A_g (fun (ss:Int×List Int)=>match ss with | (x,out)=>(⟨[(1,aSl 3 true aLab ls),(2,aInt x),(3,aEx (.pointer (some ⟨b3_1,0,none⟩))),(7,aSl 1 false aInts (turnL (dua c).Gen c.N)),(8,aEx (vec (some b14_2) ((c.N).toNat) ((c.N).toNat)))],[oVec (some b14_2) ((c.N).toNat) 3 1 false aInt out,oBox b3_1 27 [aInt c.F.P,aInt c.F.M,aSl 1 false aInt c.F.mod,aInt c.N,aSl 1 false aInts c.Gen]]⟩:St)) (fun (ss:Int×List Int)=>match ss with | (x,out)=>(0<=x)/\(x<c.F.q^(dua c).Gen.length)/\(out.length=c.N.toNat)/\(ldr c ls (lbl ls x).1.toNat x out=leadW c ls s)) (fun (ss:Int×List Int)=>match ss with | (x,out)=>(lbl ls x).1.toNat) (s,List.replicate ((c.N).toNat) 0) ⟨‹_›,‹_›,(by simp),rfl⟩ (A_I ⟨rfl,rfl,rfl,rfl,rfl,trivial⟩ rfl) ?_
 rintro ⟨x,out⟩ ⟨x0,x1,ho,hl⟩
 show Ent _ ⟨_,[_,_]⟩ _
 refine A_C fun _ K5=>?_
 refine esr rfl fun _ K6=>?_
 refine A_A rfl (A_y rfl rfl) ?_
 refine enk K6 ?_
 refine A_E rfl (fun h16=>?_) (fun h16=>?_)
 ·have hlb:=prv_lab h x0 x1 h16
  have hpj:0<=(ix (0,0,0) ls x).2.1/\(ix (0,0,0) ls x).2.1<c.N/\1<=(ix (0,0,0) ls x).2.2/\(ix (0,0,0) ls x).2.2<c.F.q:=hlb.1
  have hmv:=min_dig hk x (ix (0,0,0) ls x).2.1 (ix (0,0,0) ls x).2.2
  have hst:=ldr_step (out:=out) hlb
  have hw1:1<=(lbl ls x).1:=hlb.2.1
  have hmw:(lbl ls (minV c x (ix (0,0,0) ls x).2.1 (ix (0,0,0) ls x).2.2)).1=(lbl ls x).1-1:=hlb.2.2
  have hsm:stpV c.F (ix [] (turnL (dua c).Gen c.N) (ix (0,0,0) ls x).2.1) x (negF c.F (ix (0,0,0) ls x).2.2)=minV c x (ix (0,0,0) ls x).2.1 (ix (0,0,0) ls x).2.2:=stp_min hk hpj.1 hpj.2.1
  have hmw2:(lbl ls (stpV c.F (ix [] (turnL (dua c).Gen c.N) (ix (0,0,0) ls x).2.1) x (negF c.F (ix (0,0,0) ls x).2.2))).1=(lbl ls x).1-1:=by rw [hsm];exact hmw
  refine esp K5 ?_
  refine A_K ?_
  refine esr rfl fun _ K7=>?_
  refine A_A rfl (A_d (0,0,0) sl28 rfl rfl (by omega) (by omega)) ?_
  refine A_A rfl (A_V ti45 rfl) ?_
  refine ent_alloc (z:=.agg #[.int .i64 0,.int .i64 0,.int .i64 0]) [aInt 0,aInt 0,aInt 0] rfl zv45 rfl zc45 (fun b9_3=>?_)
  refine ent_storeBS (k:=0) sizeOf45 rfl rfl rfl (AllOne.mem ⟨(A_F _),(A_F _),(A_F _),trivial⟩) rfl rfl ?_
  show Ent _ ⟨_,[_,_,_]⟩ _
  refine enk K7 ?_
  refine A_C fun _ K8=>?_
  refine A_t 14 mixed (by kernel_rfl) (by kernel_rfl) (by kernel_rfl) ?_
  refine dw_o rfl (A_J rfl) ?_
  refine dw_o rfl (A_B runUnderlying45 rfl sizeOf3 (by decide) rfl) ?_
  refine dw_o rfl (A_L (k:=0) isAgg3 rfl rfl rfl) ?_
  refine dw_o rfl (A_B runUnderlying27 rfl sizeOf24 (by decide) rfl) ?_
  refine dw_o rfl (A_P (k:=2) ti24 rfl rfl rfl) ?_
  refine dw_o rfl (A_J rfl) ?_
  refine dw_o rfl (A_B runUnderlying45 rfl sizeOf3 (by decide) rfl) ?_
  refine dw_o rfl (A_L (k:=0) isAgg3 rfl rfl rfl) ?_
  refine dw_o rfl (A_k sl22 rfl rfl (by omega) (by omega)) ?_
  refine dw_o rfl (ok_loadV (k:=1) 0 ti3 rfl rfl (by omega) (by omega)) ?_
  refine dw_o rfl (A_B runUnderlying45 rfl sizeOf3 (by decide) rfl) ?_
  refine dw_o rfl (A_L (k:=0) isAgg3 rfl rfl rfl) ?_
  refine dw_o rfl (A_S (rAdd_ok c.F (ix 0 out ((ix (0,0,0) ls x).2.1)) ((ix (0,0,0) ls x).2.2) hk.fld.1) rfl) ?_
  refine dw_o rfl (A_k sl22 rfl rfl (by omega) (by omega)) ?_
  refine dw_nil ?_
  refine ent_storeV (k:=1) (z:=addF c.F (ix 0 out ((ix (0,0,0) ls x).2.1)) ((ix (0,0,0) ls x).2.2)) ti3 rfl rfl rfl (A_u (A_F _)) (by omega) (by omega) ?_
  refine enk K8 ?_
  refine A_t 15 mixed (by kernel_rfl) (by kernel_rfl) (by kernel_rfl) ?_
  refine dw_o rfl (A_B runUnderlying27 rfl sizeOf24 (by decide) rfl) ?_
  refine dw_o rfl (A_P (k:=2) ti24 rfl rfl rfl) ?_
  refine dw_o rfl (A_J rfl) ?_
  refine dw_o rfl (A_B runUnderlying45 rfl sizeOf3 (by decide) rfl) ?_
  refine dw_o rfl (A_L (k:=0) isAgg3 rfl rfl rfl) ?_
  refine dw_o rfl (A_d [] sl25 rfl rfl (by omega) (by omega)) ?_
  refine dw_o rfl (A_V ti22 rfl) ?_
  refine dw_o rfl (A_J rfl) ?_
  refine dw_o rfl (A_B runUnderlying27 rfl sizeOf24 (by decide) rfl) ?_
  refine dw_o rfl (A_P (k:=2) ti24 rfl rfl rfl) ?_
  refine dw_o rfl (A_B runUnderlying45 rfl sizeOf3 (by decide) rfl) ?_
  refine dw_o rfl (A_L (k:=0) isAgg3 rfl rfl rfl) ?_
  refine dw_o rfl (A_S (rNeg_ok c.F ((ix (0,0,0) ls x).2.2) hk.fld.1) rfl) ?_
  refine dw_o rfl (A_S (rStep_ok c.F (ix [] (turnL (dua c).Gen c.N) ((ix (0,0,0) ls x).2.1)) x (negF c.F ((ix (0,0,0) ls x).2.2)) hk.fld.1 ‹_› (by omega) (by have:=dcol_len c hpj.1 hpj.2.1;show (dcol c _).length<=64;omega) (by have:=dcol_len c hpj.1 hpj.2.1;show c.F.q^(dcol c _).length<=65536;rw [this];exact hct)) rfl) ?_
  refine dw_o rfl (ok_assign rfl) ?_
  refine dw_nil ?_
  refine A_O ?_
  refine ent_drop 0 ?_
  refine A_X (s:=(x,out)) (stpV c.F (ix [] (turnL (dua c).Gen c.N) ((ix (0,0,0) ls x).2.1)) x (negF c.F ((ix (0,0,0) ls x).2.2)),List.set out ((ix (0,0,0) ls x).2.1).toNat (addF c.F (ix 0 out ((ix (0,0,0) ls x).2.1)) ((ix (0,0,0) ls x).2.2))) ⟨(by rw [hsm];exact hmv.1),(by rw [hsm];exact hmv.2.1),(by simp only [List.length_set];exact ho),(by rw [hsm];exact hst.symm.trans hl)⟩ (by dsimp only;omega) (A_I ⟨rfl,rfl,rfl,rfl,rfl,trivial⟩ rfl)
 refine A_e ?_
 refine A_s K4 ?_
 refine esk rfl ?_
 refine A_R ?_
 exact retR1 (.inr rfl) results18 (A_H (A_T rfl (cv_vec (k:=0) (off_x rfl) (by simp_all) (by rw [<- hl,show x=0 by omega];exact (ldr_end h.zero out).symm))))

end Go.Proofs.YtcilbmggiahciaaGreat

