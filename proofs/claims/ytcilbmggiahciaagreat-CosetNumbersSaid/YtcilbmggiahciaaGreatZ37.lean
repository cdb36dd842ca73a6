/-
  Walks of functions of the program and the reference.
-/
import Derived.Test.YtcilbmggiahciaaGreatZ36
open Go Go.Cw
namespace Go.Proofs.YtcilbmggiahciaaGreat
open Tryz
set_option maxRecDepth 100000
set_option linter.unusedVariables false
set_option linter.unusedSimpArgs false
theorem rNbr_ok (c:Cod) (hc:csE c=0):Ctr Tryz.prog 59 [aCod c] (aSl 1 false aInts (nbL c)):=by
 have hcs:=csE_zero.1 hc
 have hk:=hcs.1
 have hqb:=hk.fld.1.bd
 have hq2:=hk.q2
 have hdd:=hk.dim_dua
 have hn64:=hk.n64
 have hn1:=hk.n1
 have hcv:csV c=(c.F.q^(dua c).Gen.length):=if_pos hc
 have hp1:=pow_pos_of c.F.q hq2 (dua c).Gen.length
 have ltn:=length_turnL (dua c).Gen c.N
 refine A_p Tryz.call59 func59 rfl rfl ?_
 intro w O
 refine A_Y 0 2 rfl rfl (fun hlen0_2=>?_)
 refine A_Y 0 4 rfl rfl (fun hlen0_4=>?_)
 refine esr rfl fun _ K1=>?_
 refine A_h rfl rfl (AllOne.mem ⟨(A_F _),(A_F _),A_c,(A_F _),A_c,trivial⟩) (fun b1_1=>?_)
 refine emm rfl ?_
 refine enk K1 ?_
 refine esr rfl fun _ K2=>?_
 refine A_A rfl (A_P (k:=0) ti27 rfl rfl rfl) ?_
 refine A_A rfl (A_S (rCount28_ok c) rfl) ?_
 refine emm rfl ?_
 refine A_A rfl (A_Q rfl rfl) ?_
 refine A_A rfl (A_Q rfl rfl) ?_
 refine emm rfl ?_
 refine enk K2 ?_
 refine esr rfl fun _ K3=>?_
 refine A_A rfl (A_P (k:=0) ti27 rfl rfl rfl) ?_
 refine A_A rfl (A_S (rCols_ok c hk) rfl) ?_
 refine emm rfl ?_
 refine enk K3 ?_
 refine esr rfl fun _ K4=>?_
 refine ent_make aH Hdr.no rfl vt25 rfl rfl (by omega) (by omega) (by omega) (fun _ _=>rfl) (AllV.mem ⟨rfl,trivial⟩) (fun b18_2=>?_)
 refine ent_rowsN 3 aInt ((csV c).toNat) ?_
 refine emm rfl ?_
 refine enk K4 ?_
 refine A_C fun _ K5=>?_
 refine esk rfl ?_
 refine A_K ?_
 refine A_g (fun (ss:Int×List Hdr×List (List Int))=>match ss with | (s,Hs,X)=>(⟨[(1,aEx (.pointer (some ⟨b1_1,0,none⟩))),(3,aInt (csV c)),(5,aSl 1 false aInts (turnL (dua c).Gen c.N)),(6,aEx (vec (some b18_2) ((csV c).toNat) ((csV c).toNat))),(7,aInt s)],[oRws 3 aInt [] Hs X,oVec (some b18_2) ((csV c).toNat) 22 1 false aH Hs,oBox b1_1 27 [aInt c.F.P,aInt c.F.M,aSl 1 false aInt c.F.mod,aInt c.N,aSl 1 false aInts c.Gen]]⟩:St)) (fun (ss:Int×List Hdr×List (List Int))=>match ss with | (s,Hs,X)=>(0<=s)/\(s<=(c.F.q^(dua c).Gen.length))/\((Hs.length:Int)=(c.F.q^(dua c).Gen.length))/\(X=rowS (nbG c) (c.N*(c.F.q-1)) (c.F.q^(dua c).Gen.length) s 0)) (fun (ss:Int×List Hdr×List (List Int))=>match ss with | (s,Hs,X)=>((c.F.q^(dua c).Gen.length)-s).toNat) (0,List.replicate ((csV c).toNat) Hdr.no,List.replicate ((csV c).toNat) []) ⟨(by omega),(by omega),(by simp;omega),(by rw [rowS_zero,hcv])⟩ (A_I ⟨rfl,rfl,rfl,rfl,A_W (A_i (show 0=(0:Int) by rfl)),trivial⟩ rfl) ?_
 rintro ⟨s,Hs,X⟩ ⟨s0,s1,hH,hX⟩
 show Ent _ ⟨_,[_,_,_]⟩ _
 have lX:(X.length:Int)=(c.F.q^(dua c).Gen.length):=by rw [hX,length_rowS];omega
 refine A_C fun _ K7=>?_
 refine esr rfl fun _ K8=>?_
 refine A_A rfl (A_o rfl rfl) ?_
 refine enk K8 ?_
 refine A_E rfl (fun h21=>?_) (fun h21=>?_)
 ·refine esp K7 ?_
  refine A_C fun _ K9=>?_
  refine A_K ?_
  refine esk rfl ?_
  refine A_K ?_
  refine A_g (fun (ss:Int×List Hdr×List (List Int))=>match ss with | (j,Hs2,X2)=>(⟨[(1,aEx (.pointer (some ⟨b1_1,0,none⟩))),(3,aInt (csV c)),(5,aSl 1 false aInts (turnL (dua c).Gen c.N)),(6,aEx (vec (some b18_2) ((csV c).toNat) ((csV c).toNat))),(7,aInt s),(8,aInt j)],[oRws 3 aInt [] Hs2 X2,oVec (some b18_2) ((csV c).toNat) 22 1 false aH Hs2,oBox b1_1 27 [aInt c.F.P,aInt c.F.M,aSl 1 false aInt c.F.mod,aInt c.N,aSl 1 false aInts c.Gen]]⟩:St)) (fun (ss:Int×List Hdr×List (List Int))=>match ss with | (j,Hs2,X2)=>(0<=j)/\(j<=c.N)/\((Hs2.length:Int)=(c.F.q^(dua c).Gen.length))/\(X2=rowS (nbG c) (c.N*(c.F.q-1)) (c.F.q^(dua c).Gen.length) s (j*(c.F.q-1)))) (fun (ss:Int×List Hdr×List (List Int))=>match ss with | (j,Hs2,X2)=>(c.N-j).toNat) (0,Hs,X) ⟨(by omega),(by omega),hH,(by rw [Int.zero_mul];exact hX)⟩ (A_I ⟨rfl,rfl,rfl,rfl,rfl,A_W (A_i (show 0=(0:Int) by rfl)),trivial⟩ rfl) ?_
  rintro ⟨j,Hs2,X2⟩ ⟨j0,j1,hH2,hX2⟩
  show Ent _ ⟨_,[_,_,_]⟩ _
  refine A_C fun _ K11=>?_
  refine esr rfl fun _ K12=>?_
  refine A_A rfl (A_B runUnderlying27 rfl sizeOf3 (by decide) rfl) ?_
  refine A_A rfl (A_L (k:=2) isAgg3 rfl rfl rfl) ?_
  refine A_A rfl (A_o rfl rfl) ?_
  refine enk K12 ?_
  refine A_E rfl (fun h27=>?_) (fun h27=>?_)
  ·refine esp K11 ?_
   refine A_C fun _ K13=>?_
   refine A_K ?_
   refine esk rfl ?_
   refine A_K ?_
   refine A_g (fun (ss:Int×List Hdr×List (List Int))=>match ss with | (a,Hs3,X3)=>(⟨[(1,aEx (.pointer (some ⟨b1_1,0,none⟩))),(3,aInt (csV c)),(5,aSl 1 false aInts (turnL (dua c).Gen c.N)),(6,aEx (vec (some b18_2) ((csV c).toNat) ((csV c).toNat))),(7,aInt s),(8,aInt j),(9,aInt a)],[oRws 3 aInt [] Hs3 X3,oVec (some b18_2) ((csV c).toNat) 22 1 false aH Hs3,oBox b1_1 27 [aInt c.F.P,aInt c.F.M,aSl 1 false aInt c.F.mod,aInt c.N,aSl 1 false aInts c.Gen]]⟩:St)) (fun (ss:Int×List Hdr×List (List Int))=>match ss with | (a,Hs3,X3)=>(1<=a)/\(a<=c.F.q)/\((Hs3.length:Int)=(c.F.q^(dua c).Gen.length))/\(X3=rowS (nbG c) (c.N*(c.F.q-1)) (c.F.q^(dua c).Gen.length) s (j*(c.F.q-1)+a-1))) (fun (ss:Int×List Hdr×List (List Int))=>match ss with | (a,Hs3,X3)=>(c.F.q-a).toNat) (1,Hs2,X2) ⟨(by omega),(by omega),hH2,(by rw [hX2];congr 1;omega)⟩ (A_I ⟨rfl,rfl,rfl,rfl,rfl,rfl,A_W (A_i (show 1=(1:Int) by rfl)),trivial⟩ rfl) ?_
   rintro ⟨a,Hs3,X3⟩ ⟨a0,a1,hH3,hX3⟩
   show Ent _ ⟨_,[_,_,_]⟩ _
   have lX3:(X3.length:Int)=(c.F.q^(dua c).Gen.length):=by rw [hX3,length_rowS];omega
   refine A_C fun _ K15=>?_
   refine esr rfl fun _ K16=>?_
   refine A_A rfl (A_B runUnderlying27 rfl sizeOf24 (by decide) rfl) ?_
   refine A_A rfl (A_P (k:=2) ti24 rfl rfl rfl) ?_
   refine A_A rfl (A_S (rOrder_ok c.F) rfl) ?_
   refine A_A rfl (A_o rfl rfl) ?_
   refine enk K16 ?_
   refine A_E rfl (fun h34=>?_) (fun h34=>?_)
   ·have hst:stpV c.F (ix [] (turnL (dua c).Gen c.N) j) s (negF c.F a)=minV c s j a:=stp_min hk j0 h27
    have hnl:=nb_lt hq2 j0 h27 a0 h34
    have lxr:(ix [] X3 s).length=(j*(c.F.q-1)+a-1).toNat:=by rw [hX3,ix_rowS _ s0 (by omega),A_j]
    have hmb:c.N*(c.F.q-1)<=64*255:=Int.mul_le_mul (by omega) (by omega) (by omega) (by decide)
    refine esp K15 ?_
    refine A_C fun _ K17=>?_
    refine A_K ?_
    refine ent_drawP2 19 [0,1] [(37,aEx (vec (some b18_2) ((csV c).toNat) ((csV c).toNat))),(38,aInt s)] [(1,aEx (.pointer (some ⟨b1_1,0,none⟩))),(3,aInt (csV c)),(5,aSl 1 false aInts (turnL (dua c).Gen c.N)),(6,aEx (vec (some b18_2) ((csV c).toNat) ((csV c).toNat))),(7,aInt s),(8,aInt j),(9,aInt a),(42,aH (ix Hdr.no Hs3 s)),(55,aSl 1 false aInt [stpV c.F (ix [] (turnL (dua c).Gen c.N) j) s (negF c.F a)])] mixed (by kernel_rfl) (by kernel_rfl) rfl (by decide) rfl (by kernel_rfl) (AllPlS.mem ⟨pl_ex,pl_ex,trivial⟩) ?_ ?_
    ·refine dw_o rfl (A_J rfl) ?_
     refine dw_o rfl (A_J rfl) ?_
     refine dw_o rfl (A_J rfl) ?_
     refine dw_o rfl (A_J rfl) ?_
     refine dw_o rfl (A_k sl25 rfl rfl (by omega) (by omega)) ?_
     refine dw_o rfl (ok_loadV (k:=1) Hdr.no ti22 rfl rfl (by omega) (by omega)) ?_
     refine dw_o rfl (A_B runUnderlying27 rfl sizeOf24 (by decide) rfl) ?_
     refine dw_o rfl (A_P (k:=2) ti24 rfl rfl rfl) ?_
     refine dw_o rfl (A_J rfl) ?_
     refine dw_o rfl (A_J rfl) ?_
     refine dw_o rfl (A_d [] sl25 rfl rfl (by omega) (by omega)) ?_
     refine dw_o rfl (A_V ti22 rfl) ?_
     refine dw_o rfl (A_J rfl) ?_
     refine dw_o rfl (A_B runUnderlying27 rfl sizeOf24 (by decide) rfl) ?_
     refine dw_o rfl (A_P (k:=2) ti24 rfl rfl rfl) ?_
     refine dw_o rfl (A_J rfl) ?_
     refine dw_o rfl (A_S (rNeg_ok c.F a hk.fld.1) rfl) ?_
     refine dw_o rfl (A_S (rStep_ok c.F (ix [] (turnL (dua c).Gen c.N) j) s (negF c.F a) hk.fld.1 ‹_› (by omega) (by have:=dcol_len c j0 h27;show (dcol c j).length<=64;omega) (by have:=dcol_len c j0 h27;show c.F.q^(dcol c j).length<=65536;rw [this];exact hcs.2)) rfl) ?_
     refine dw_o rfl (ok_build1 (enc:=aInt) (y:=stpV c.F (ix [] (turnL (dua c).Gen c.N) j) s (negF c.F a)) vt22 rfl (A_u (A_F _)) (by decide)) ?_
     refine dw_nil ?_
     exact ⟨⟨rfl,rfl,rfl,rfl,rfl,rfl,rfl,rfl,rfl,trivial⟩,⟨rfl,rfl,trivial⟩⟩
    refine ent_takeRow 0 s rfl (by omega) (by omega) (by exact List.not_mem_nil) (fun hn42=>?_)
    refine ent_appendS (k:=0) rfl vt22 rfl rfl ‹_› rfl (cv_id sub_refl) (by simp only [List.length_append,List.length_cons,List.length_nil];omega) (by simp only [List.length_append,List.length_cons,List.length_nil];omega) (fun r56_3 cr56_3=>?_)
    refine A_O ?_
    refine ent_QK ?_
    refine ent_ph1 (t0:=some 56) 19 [0,1] [(37,aEx (vec (some b18_2) ((csV c).toNat) ((csV c).toNat))),(38,aInt s)] (by kernel_rfl) (by kernel_rfl) (by decide) (by decide) (by kernel_rfl) rfl (AllPlS.mem ⟨pl_ex,pl_ex,trivial⟩) (by kernel_rfl) ?_
    refine dwi_o (o:=⟨_,_,_,_,_,_⟩) rfl rfl rfl ?_ ?_
    ·exact OpOK.eqv (A_J rfl) rfl
    refine dwi_o (o:=⟨_,_,_,_,_,_⟩) rfl rfl rfl ?_ ?_
    ·exact OpOK.eqv (A_J rfl) rfl
    refine A_A rfl (A_k sl25 rfl rfl (by omega) (by omega)) ?_
    refine ent_storeV (k:=2) (z:=⟨r56_3,((ix [] X3 s)++[stpV c.F (ix [] (turnL (dua c).Gen c.N) j) s (negF c.F a)]).length,cr56_3⟩) ti22 rfl rfl rfl (A_u (one_ex rfl)) (by omega) (by omega) ?_
    refine ent_putRow 1 0 s (m:=((ix [] X3 s)++[stpV c.F (ix [] (turnL (dua c).Gen c.N) j) s (negF c.F a)]).length) [] rfl rfl (by decide) (by simp) rfl ?_
    refine enk K17 ?_
    refine A_D ?_
    refine emm rfl ?_
    refine A_A rfl (A_m rfl rfl (by omega) (by omega)) ?_
    refine emm rfl ?_
    refine A_O ?_
    refine A_X (s:=(a,Hs3,X3)) (a+1,List.set Hs3 (s).toNat ⟨r56_3,((ix [] X3 s)++[stpV c.F (ix [] (turnL (dua c).Gen c.N) j) s (negF c.F a)]).length,cr56_3⟩,List.set X3 (s).toNat ((ix [] X3 s)++[stpV c.F (ix [] (turnL (dua c).Gen c.N) j) s (negF c.F a)])) ⟨(by omega),‹_›,(by simp only [List.length_set];exact hH3),(by rw [hX3,hst,<- nbG_at c hq2 s a0 h34,rowS_step _ s0 (by omega) (by omega)];congr 1;omega)⟩ (by dsimp only;omega) (A_I ⟨rfl,rfl,rfl,rfl,rfl,rfl,rfl,trivial⟩ (A_N (rfl) (A_N (A_n (show (List.set Hs3 (s).toNat ⟨r56_3,((ix [] X3 s)++[stpV c.F (ix [] (turnL (dua c).Gen c.N) j) s (negF c.F a)]).length,cr56_3⟩)=List.set Hs3 (s).toNat (⟨r56_3,((ix [] X3 s)++[stpV c.F (ix [] (turnL (dua c).Gen c.N) j) s (negF c.F a)]).length,cr56_3⟩) by rfl)) (rfl))))
   refine A_e ?_
   refine A_s K13 ?_
   refine A_D ?_
   refine emm rfl ?_
   refine A_A rfl (A_m rfl rfl (by omega) (by omega)) ?_
   refine emm rfl ?_
   refine A_O ?_
   refine A_X (s:=(j,Hs2,X2)) (j+1,Hs3,X3) ⟨(by omega),‹_›,‹_›,(by rw [hX3,show a=c.F.q by omega,Int.add_mul,Int.one_mul];congr 1;omega)⟩ (by dsimp only;omega) (A_I ⟨rfl,rfl,rfl,rfl,rfl,rfl,trivial⟩ rfl)
  refine A_e ?_
  refine A_s K9 ?_
  refine A_D ?_
  refine emm rfl ?_
  refine A_A rfl (A_m rfl rfl (by omega) (by omega)) ?_
  refine emm rfl ?_
  refine A_O ?_
  refine A_X (s:=(s,Hs,X)) (s+1,Hs2,X2) ⟨(by omega),(by omega),‹_›,(by rw [hX2];exact rowS_next _ (by rw [show j=c.N by omega]))⟩ (by dsimp only;omega) (A_I ⟨rfl,rfl,rfl,rfl,rfl,trivial⟩ rfl)
 refine A_e ?_
 refine A_s K5 ?_
 refine esk rfl ?_
 refine A_R ?_
 refine ent_frzRows 1 0 rfl rfl (by decide) ?_
 exact retR1 (.inr rfl) results59 (A_H (A_T rfl (cv_vec (k:=0) (off_x rfl) (by simp_all) (by rw [hX];exact rowS_all _ (by omega)))))
end Go.Proofs.YtcilbmggiahciaaGreat

