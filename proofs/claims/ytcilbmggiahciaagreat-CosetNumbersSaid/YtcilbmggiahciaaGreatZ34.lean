/-
  Walks of functions of the program and the reference.
-/
import Derived.Test.YtcilbmggiahciaaGreatZ33
open Go Go.Cw
namespace Go.Proofs.YtcilbmggiahciaaGreat
open Tryz
set_option maxRecDepth 100000
set_option linter.unusedVariables false
set_option linter.unusedSimpArgs false
theorem cso_ok (c:Cod) (y:List Int) (d:Bool) (h:opE c y d=0):Ctr Tryz.prog 54 [aCod c,aSl 1 false aInt y,aBool d] (aTup [aSp c,aInt 0]):=by
 have hoz:=opE_zero h
 have hcs:=csE_zero.1 hoz.1
 have hk:=hcs.1
 have hn1:=hk.n1
 have hn64:=hk.n64
 have hln:=hk.len
 have hqb:=hk.fld.1.bd
 have hdd:=hk.dim_dua
 have hc0:=codE_zero.2 hk
 have hx0:expE c.F.q ((dua c).Gen.length:Int) 65536=0:=by rw [<- csE_exp hk];exact hoz.1
 have hxv:expF c.F.q ((dua c).Gen.length:Int) 65536=c.F.q^(dua c).Gen.length:=by rw [<- csV_exp hk];exact if_pos hoz.1
 refine A_p Tryz.call54 func54 rfl rfl ?_
 intro w O
 refine A_Y 0 2 rfl rfl (fun hlen0_2=>?_)
 refine A_Y 0 4 rfl rfl (fun hlen0_4=>?_)
 refine A_x 1 rfl (fun hlen1=>?_)
 refine esr rfl fun _ K1=>?_
 refine A_h rfl rfl (AllOne.mem ⟨(A_F _),(A_F _),A_c,(A_F _),A_c,trivial⟩) (fun b3_1=>?_)
 refine emm rfl ?_
 refine enk K1 ?_
 refine esr rfl fun _ K2=>?_
 refine A_A rfl (A_P (k:=0) ti27 rfl rfl rfl) ?_
 refine A_A rfl (A_S (Dual_ok c hk) rfl) ?_
 refine emm rfl ?_
 refine A_A rfl (A_Q rfl rfl) ?_
 refine A_A rfl (A_Q rfl rfl) ?_
 refine ent_alloc (z:=.agg #[.int .i64 0,.int .i64 0,.slice none 0 0,.int .i64 0,.slice none 0 0]) [aInt 0,aInt 0,aEx (.slice none 0 0),aInt 0,aEx (.slice none 0 0)] rfl zv27 rfl zc27 (fun b8_2=>?_)
 refine ent_storeBS (k:=0) sizeOf27 rfl rfl rfl (AllOne.mem ⟨(A_F _),(A_F _),A_c,(A_F _),A_c,trivial⟩) rfl rfl ?_
 show Ent _ ⟨_,[_,_]⟩ _
 refine emm rfl ?_
 refine enk K2 ?_
 refine A_C fun _ K3=>?_
 refine esr rfl fun _ K4=>?_
 refine A_A rfl (A_y rfl rfl) ?_
 refine enk K4 ?_
 refine ent_condFP rfl (by decide) ?_
 refine esp K3 ?_
 refine A_C fun _ K5=>?_
 refine esk rfl ?_
 refine ent_cond rfl (fun h26=>?_) (fun h26=>?_)
 ·refine esr rfl fun _ K7=>?_
  refine A_A rfl (A_P (k:=1) ti27 rfl rfl rfl) ?_
  refine emm rfl ?_
  refine A_A rfl (A_S (cSyn_ok c y) rfl) ?_
  refine emm rfl ?_
  refine A_A rfl (A_Q rfl rfl) ?_
  refine A_A rfl (A_Q rfl rfl) ?_
  refine emm rfl ?_
  refine enk K7 ?_
  refine esr rfl fun _ K8=>?_
  refine A_A rfl (A_y rfl rfl) ?_
  refine enk K8 ?_
  refine A_E rfl (fun h34=>?_) (fun h34=>?_)
  ·exact absurd (hoz.2 h26) h34
  refine esp K5 ?_
  refine esr rfl fun _ K9=>?_
  refine A_A rfl (A_B runUnderlying27 rfl sizeOf24 (by decide) rfl) ?_
  refine A_A rfl (A_P (k:=1) ti24 rfl rfl rfl) ?_
  refine A_A rfl (A_S (CtrF.ctr (New_ok c.F hk.fld)) rfl) ?_
  refine emm rfl ?_
  refine A_A rfl (A_Q rfl rfl) ?_
  refine A_A rfl (A_Q rfl rfl) ?_
  refine emm rfl ?_
  refine enk K9 ?_
  refine A_C fun _ K10=>?_
  refine A_t 9 mixed (by kernel_rfl) (by kernel_rfl) (by kernel_rfl) ?_
  refine dw_o rfl (A_J rfl) ?_
  refine dw_o rfl (A_J rfl) ?_
  refine dw_o rfl (A_S (Order_ok c.F) rfl) ?_
  refine dw_o rfl (A_B runUnderlying27 rfl sizeOf3 (by decide) rfl) ?_
  refine dw_o rfl (A_L (k:=1) isAgg3 rfl rfl rfl) ?_
  refine dw_o rfl (A_B runUnderlying27 rfl sizeOf25 (by decide) rfl) ?_
  refine dw_o rfl (A_L (k:=0) isAgg25 rfl rfl rfl) ?_
  refine dw_o rfl (A_z rfl runUnderlying25 rfl) ?_
  refine dw_o rfl (ok_build st70 (As:=[aEx (.pointer none),aInt 0,aInt 0,aInt 0,aInt 0,aEx (.slice none 0 0)]) z70 (⟨0,1,rfl,.inl ⟨rfl,_,rfl,one_at,rfl,⟨1,1,rfl,.inl ⟨rfl,_,rfl,(A_F _),rfl,⟨2,1,rfl,.inl ⟨rfl,_,rfl,(A_F _),rfl,⟨3,1,rfl,.inl ⟨rfl,_,rfl,(A_F _),rfl,rfl⟩⟩⟩⟩⟩⟩⟩⟩)) ?_
  refine dw_nil ?_
  refine A_h rfl rfl (AllOne.mem ⟨one_at,(A_F _),(A_F _),(A_F _),(A_F _),(one_ex rfl),trivial⟩) (fun b51_3=>?_)
  refine emm rfl ?_
  refine enk K10 ?_
  refine A_C fun _ K11=>?_
  refine A_C fun _ K12=>?_
  refine ent_drawFl 15 [12] mixed (by kernel_rfl) (by kernel_rfl) (by kernel_rfl) (by kernel_rfl) (by kernel_rfl) (fun _ _ _ _ _ h=>h) ?_
  refine dw_o rfl (A_J rfl) ?_
  refine dw_o rfl (A_J rfl) ?_
  refine dw_o rfl (ok_nilCheckEx rfl) ?_
  refine dw_o rfl (A_B runUnderlying70 rfl sizeOf3 (by decide) rfl) ?_
  refine dw_o rfl (A_L (k:=0) isAgg3 rfl rfl rfl) ?_
  refine dw_o rfl (A_J rfl) ?_
  refine dw_o rfl (ok_nilCheckEx rfl) ?_
  refine dw_o rfl (A_B runUnderlying70 rfl sizeOf3 (by decide) rfl) ?_
  refine dw_o rfl (A_L (k:=0) isAgg3 rfl rfl rfl) ?_
  refine dw_o rfl (A_S (Exp_ok c.F.q (↑((dua c).Gen).length:Int) 65536 (by omega) (by omega) (by omega) (by omega) (by omega) (by omega)) rfl) ?_
  refine dw_o rfl (A_J rfl) ?_
  refine dw_o rfl (A_Q rfl rfl) ?_
  refine dw_o rfl (A_Q rfl rfl) ?_
  refine dw_o rfl (ok_nilCheckEx rfl) ?_
  refine dw_o rfl (A_B runUnderlying70 rfl sizeOf3 (by decide) rfl) ?_
  refine dw_nil ?_
  refine ent_storeB (k:=0) sizeOf3 rfl rfl rfl (A_F _) rfl ?_
  refine emm rfl ?_
  refine enk K12 ?_
  refine esr rfl fun _ K13=>?_
  refine A_A rfl (A_y rfl rfl) ?_
  refine enk K13 ?_
  refine A_E rfl (fun h68=>?_) (fun h68=>?_)
  ·exact absurd hx0 h68
  refine esp K11 ?_
  refine esr rfl fun _ K14=>?_
  refine A_A rfl (A_B runUnderlying27 rfl sizeOf3 (by decide) rfl) ?_
  refine A_A rfl (A_L (k:=2) isAgg3 rfl rfl rfl) ?_
  refine ent_make aH Hdr.no rfl vt25 rfl rfl (by omega) (by omega) (by omega) (fun _ _=>rfl) (AllV.mem ⟨rfl,trivial⟩) (fun b72_4=>?_)
  refine ent_rowsN 3 aInt ((c.N).toNat) ?_
  refine A_A rfl (ok_nilCheckEx rfl) ?_
  refine A_A rfl (A_B runUnderlying70 rfl sizeOf25 (by decide) rfl) ?_
  refine ent_storeB (k:=2) sizeOf25 rfl rfl rfl (one_ex rfl) rfl ?_
  refine enk K14 ?_
  refine A_C fun _ K15=>?_
  refine esr rfl fun _ K16=>?_
  refine A_A rfl (ok_nilCheckEx rfl) ?_
  refine A_A rfl (A_B runUnderlying70 rfl sizeOf25 (by decide) rfl) ?_
  refine A_A rfl (A_L (k:=2) isAgg25 rfl rfl rfl) ?_
  refine A_A rfl (ok_lenEx rfl runUnderlying25 rfl) ?_
  refine emm rfl ?_
  refine enk K16 ?_
  refine A_K ?_
  refine A_g (fun (ss:Int×List Hdr×List (List Int)×Option Nat×Nat)=>match ss with | (j,Hs,X,rr5,cc5)=>(⟨[(8,aEx (.pointer (some ⟨b8_2,0,none⟩))),(14,aEx (.pointer (some ⟨b51_3,0,none⟩))),(79,aInt (↑((c.N).toNat):Int)),(80,aInt j)],[oRws 3 aInt [] Hs X,oVec rr5 cc5 22 1 false aH Hs,oBox b51_3 70 [aGF c.F,aInt c.F.q,aInt c.N,aInt (↑((dua c).Gen).length:Int),aInt (expF c.F.q (↑((dua c).Gen).length:Int) 65536),aEx (vec rr5 ((Hs).length) cc5)],oBox b8_2 27 [aInt ((dua c).F.P),aInt ((dua c).F.M),aSl 1 false aInt ((dua c).F.mod),aInt ((dua c).N),aSl 1 false aInts ((dua c).Gen)],oBox b3_1 27 [aInt c.F.P,aInt c.F.M,aSl 1 false aInt c.F.mod,aInt c.N,aSl 1 false aInts c.Gen]]⟩:St)) (fun (ss:Int×List Hdr×List (List Int)×Option Nat×Nat)=>match ss with | (j,Hs,X,rr5,cc5)=>(0<=j)/\(j<=c.N)/\((Hs.length:Int)=c.N)/\(X=colS (dua c).Gen c.N j 0)) (fun (ss:Int×List Hdr×List (List Int)×Option Nat×Nat)=>match ss with | (j,Hs,X,rr5,cc5)=>(c.N-j).toNat) (0,List.replicate ((c.N).toNat) Hdr.no,List.replicate ((c.N).toNat) [],(some b72_4),(c.N).toNat) ⟨(by omega),(by omega),(by simp;omega),(colS_zero _).symm⟩ (A_I ⟨rfl,rfl,rfl,A_W (A_i (show 0=(0:Int) by rfl)),trivial⟩ (A_N (rfl) (A_N (rfl) (A_N (own_box (av_cons rfl (av_cons rfl (av_cons rfl (av_cons rfl (av_cons rfl (av_cons (av_vec (by simp)) (rfl)))))))) (rfl))))) ?_
  rintro ⟨j,Hs,X,rr5,cc5⟩ ⟨j0,j1,hH,hX⟩
  show Ent _ ⟨_,[_,_,_,_,_]⟩ _
  have lX:(X.length:Int)=c.N:=by rw [hX,length_colS];omega
  refine esr rfl fun _ K17=>?_
  refine A_A rfl (A_o rfl rfl) ?_
  refine enk K17 ?_
  refine A_C fun _ K18=>?_
  refine A_E rfl (fun h81=>?_) (fun h81=>?_)
  ·refine esp K18 ?_
   refine A_C fun _ K19=>?_
   refine A_K ?_
   refine esk rfl ?_
   refine esr rfl fun _ K21=>?_
   refine A_A rfl (A_B runUnderlying27 rfl sizeOf25 (by decide) rfl) ?_
   refine A_A rfl (A_L (k:=3) isAgg25 rfl rfl rfl) ?_
   refine A_A rfl (A_z rfl runUnderlying25 rfl) ?_
   refine emm rfl ?_
   refine enk K21 ?_
   refine A_K ?_
   refine A_g (fun (ss:Int×List Hdr×List (List Int)×Option Nat×Nat)=>match ss with | (m,Hs2,X2,rr6,cc6)=>(⟨[(8,aEx (.pointer (some ⟨b8_2,0,none⟩))),(14,aEx (.pointer (some ⟨b51_3,0,none⟩))),(15,aInt j),(79,aInt (↑((c.N).toNat):Int)),(80,aInt j),(84,aSl 1 false aInts ((dua c).Gen)),(85,aInt (↑((dua c).Gen).length:Int)),(86,aInt m)],[oRws 3 aInt [] Hs2 X2,oVec rr6 cc6 22 1 false aH Hs2,oBox b51_3 70 [aGF c.F,aInt c.F.q,aInt c.N,aInt (↑((dua c).Gen).length:Int),aInt (expF c.F.q (↑((dua c).Gen).length:Int) 65536),aEx (vec rr6 ((Hs2).length) cc6)],oBox b8_2 27 [aInt ((dua c).F.P),aInt ((dua c).F.M),aSl 1 false aInt ((dua c).F.mod),aInt ((dua c).N),aSl 1 false aInts ((dua c).Gen)],oBox b3_1 27 [aInt c.F.P,aInt c.F.M,aSl 1 false aInt c.F.mod,aInt c.N,aSl 1 false aInts c.Gen]]⟩:St)) (fun (ss:Int×List Hdr×List (List Int)×Option Nat×Nat)=>match ss with | (m,Hs2,X2,rr6,cc6)=>(0<=m)/\(m<=(dua c).Gen.length)/\((Hs2.length:Int)=c.N)/\(X2=colS (dua c).Gen c.N j m)) (fun (ss:Int×List Hdr×List (List Int)×Option Nat×Nat)=>match ss with | (m,Hs2,X2,rr6,cc6)=>((dua c).Gen.length-m).toNat) (0,Hs,X,rr5,cc5) ⟨(by omega),(by omega),hH,hX⟩ (A_I ⟨rfl,rfl,rfl,rfl,rfl,rfl,rfl,A_W (A_i (show 0=(0:Int) by rfl)),trivial⟩ rfl) ?_
   rintro ⟨m,Hs2,X2,rr6,cc6⟩ ⟨m0,m1,hH2,hX2⟩
   show Ent _ ⟨_,[_,_,_,_,_]⟩ _
   have lX2:(X2.length:Int)=c.N:=by rw [hX2,length_colS];omega
   refine esr rfl fun _ K22=>?_
   refine A_A rfl (A_o rfl rfl) ?_
   refine enk K22 ?_
   refine A_C fun _ K23=>?_
   refine A_E rfl (fun h87=>?_) (fun h87=>?_)
   ·have hrow:((ix [] (dua c).Gen m).length:Int)=c.N:=hk.dua.row m0 (by omega)
    have lxj:(ix [] X2 j).length=m.toNat:=by rw [hX2,ix_colS _ j0 (by omega)];simp;omega
    refine esp K23 ?_
    refine A_C fun _ K24=>?_
    refine A_K ?_
    refine esr rfl fun _ K25=>?_
    refine A_A rfl (A_d [] sl25 rfl rfl (by omega) (by omega)) ?_
    refine A_A rfl (A_V ti22 rfl) ?_
    refine emm rfl ?_
    refine enk K25 ?_
    refine ent_drawP2 17 [0,1,2,3,4] [(90,aEx (.pointer (some ⟨b51_3,0,none⟩))),(91,aEx (.pointer (some ⟨b51_3,0,none⟩))),(92,aEx (.pointer (some ⟨b51_3,5,none⟩))),(93,aEx (vec rr6 ((Hs2).length) cc6)),(94,aInt j)] [(8,aEx (.pointer (some ⟨b8_2,0,none⟩))),(14,aEx (.pointer (some ⟨b51_3,0,none⟩))),(15,aInt j),(79,aInt (↑((c.N).toNat):Int)),(80,aInt j),(84,aSl 1 false aInts ((dua c).Gen)),(85,aInt (↑((dua c).Gen).length:Int)),(86,aInt m),(101,aH (ix Hdr.no Hs2 j)),(106,aSl 1 false aInt [ix 0 (ix [] ((dua c).Gen) m) j])] mixed (by kernel_rfl) (by kernel_rfl) rfl (by decide) rfl (by kernel_rfl) (AllPlS.mem ⟨pl_ex,pl_ex,pl_ex,pl_ex,pl_ex,trivial⟩) ?_ ?_
    ·refine dw_o rfl (A_J rfl) ?_
     refine dw_o rfl (ok_nilCheckEx rfl) ?_
     refine dw_o rfl (A_B runUnderlying70 rfl sizeOf25 (by decide) rfl) ?_
     refine dw_o rfl (A_L (k:=2) isAgg25 rfl rfl rfl) ?_
     refine dw_o rfl (A_J rfl) ?_
     refine dw_o rfl (A_J rfl) ?_
     refine dw_o rfl (ok_nilCheckEx rfl) ?_
     refine dw_o rfl (A_B runUnderlying70 rfl sizeOf25 (by decide) rfl) ?_
     refine dw_o rfl (A_L (k:=2) isAgg25 rfl rfl rfl) ?_
     refine dw_o rfl (A_J rfl) ?_
     refine dw_o rfl (ok_indexV0 (k:=1) sl25 rfl rfl rfl rfl (by omega) (by omega)) ?_
     refine dw_o rfl (ok_loadV0 (k:=1) Hdr.no ti22 rfl rfl (by omega) (by omega)) ?_
     refine dw_o rfl (A_J rfl) ?_
     refine dw_o rfl (A_J rfl) ?_
     refine dw_o rfl (A_d 0 sl22 rfl rfl (by omega) (by omega)) ?_
     refine dw_o rfl (A_V ti3 rfl) ?_
     refine dw_o rfl (ok_build1 (enc:=aInt) (y:=ix 0 (ix [] ((dua c).Gen) m) j) vt22 rfl (A_u (A_F _)) (by decide)) ?_
     refine dw_nil ?_
     exact ⟨⟨rfl,rfl,rfl,rfl,rfl,rfl,rfl,rfl,rfl,rfl,trivial⟩,⟨rfl,rfl,rfl,rfl,rfl,trivial⟩⟩
    refine ent_takeRow 0 j rfl (by omega) (by omega) (by exact List.not_mem_nil) (fun hn101=>?_)
    refine ent_appendS (k:=0) rfl vt22 rfl rfl ‹_› rfl (cv_id sub_refl) (by simp only [List.length_append,List.length_cons,List.length_nil];omega) (by simp only [List.length_append,List.length_cons,List.length_nil];omega) (fun r107_7 cr107_7=>?_)
    refine A_O ?_
    refine ent_QK ?_
    refine ent_ph1 (t0:=some 107) 17 [0,1,2,3,4] [(90,aEx (.pointer (some ⟨b51_3,0,none⟩))),(91,aEx (.pointer (some ⟨b51_3,0,none⟩))),(92,aEx (.pointer (some ⟨b51_3,5,none⟩))),(93,aEx (vec rr6 ((Hs2).length) cc6)),(94,aInt j)] (by kernel_rfl) (by kernel_rfl) (by decide) (by decide) (by kernel_rfl) rfl (AllPlS.mem ⟨pl_ex,pl_ex,pl_ex,pl_ex,pl_ex,trivial⟩) (by kernel_rfl) ?_
    refine dwi_o (o:=⟨_,_,_,_,_,_⟩) rfl rfl rfl ?_ ?_
    ·exact OpOK.eqv (A_J rfl) rfl
    refine dwi_o (o:=⟨_,_,_,_,_,_⟩) rfl rfl rfl ?_ ?_
    ·exact OpOK.eqv (ok_nilCheckEx rfl) rfl
    refine dwi_o (o:=⟨_,_,_,_,_,_⟩) rfl rfl rfl ?_ ?_
    ·exact OpOK.eqv (A_B runUnderlying70 rfl sizeOf25 (by decide) rfl) rfl
    refine dwi_o (o:=⟨_,_,_,_,_,_⟩) rfl rfl rfl ?_ ?_
    ·exact OpOK.eqv (A_L (k:=3) isAgg25 rfl rfl rfl) rfl
    refine dwi_o (o:=⟨_,_,_,_,_,_⟩) rfl rfl rfl ?_ ?_
    ·exact OpOK.eqv (A_J rfl) rfl
    refine A_A rfl (ok_indexV0 (k:=2) sl25 rfl rfl rfl rfl (by omega) (by omega)) ?_
    refine ent_storeV0 (k:=2) (z:=⟨r107_7,((ix [] X2 j)++[ix 0 (ix [] ((dua c).Gen) m) j]).length,cr107_7⟩) ti22 rfl rfl rfl (A_u (one_ex rfl)) (by omega) (by omega) ?_
    refine ent_putRow 1 0 j (m:=((ix [] X2 j)++[ix 0 (ix [] ((dua c).Gen) m) j]).length) [] rfl rfl (by decide) (by simp) rfl ?_
    refine enk K24 ?_
    refine A_D ?_
    refine A_A rfl (A_m rfl rfl (by omega) (by omega)) ?_
    refine emm rfl ?_
    refine A_O ?_
    refine A_X (s:=(m,Hs2,X2,rr6,cc6)) (m+1,List.set Hs2 (j).toNat ⟨r107_7,((ix [] X2 j)++[ix 0 (ix [] ((dua c).Gen) m) j]).length,cr107_7⟩,List.set X2 (j).toNat ((ix [] X2 j)++[ix 0 (ix [] ((dua c).Gen) m) j]),rr6,cc6) ⟨(by omega),‹_›,(by simp only [List.length_set];exact hH2),(by rw [hX2];exact colS_step _ j0 (by omega) m0 (by omega))⟩ (by dsimp only;omega) (A_I ⟨rfl,rfl,rfl,rfl,rfl,rfl,rfl,rfl,trivial⟩ (A_N (rfl) (A_N (A_n (show (List.set Hs2 (j).toNat ⟨r107_7,((ix [] X2 j)++[ix 0 (ix [] ((dua c).Gen) m) j]).length,cr107_7⟩)=List.set Hs2 (j).toNat (⟨r107_7,((ix [] X2 j)++[ix 0 (ix [] ((dua c).Gen) m) j]).length,cr107_7⟩) by rfl)) (A_N (own_box (av_cons rfl (av_cons rfl (av_cons rfl (av_cons rfl (av_cons rfl (av_cons (av_vec (by simp)) (rfl)))))))) (rfl)))))
   refine A_e ?_
   refine A_s K19 ?_
   refine A_D ?_
   refine A_A rfl (A_m rfl rfl (by omega) (by omega)) ?_
   refine emm rfl ?_
   refine A_O ?_
   refine A_X (s:=(j,Hs,X,rr5,cc5)) (j+1,Hs2,X2,rr6,cc6) ⟨(by omega),(by omega),‹_›,(by rw [hX2];exact colS_next _ j0 (by omega))⟩ (by dsimp only;omega) (A_I ⟨rfl,rfl,rfl,rfl,trivial⟩ rfl)
  refine A_e ?_
  refine A_s K15 ?_
  refine A_C fun _ K26=>?_
  refine ent_frzRows 1 0 rfl rfl (by decide) ?_
  refine A_D ?_
  refine emm rfl ?_
  refine enk K26 ?_
  refine A_R ?_
  exact retR2 (.inr rfl) results54 (A_H (A_T rfl (cv_box (k:=1) (off_x rfl) ⟨cv_id sub_x,A_a rfl,A_a rfl,A_a rfl,A_a (by exact hxv),cv_vec (k:=0) (off_x rfl) (by omega) (by rw [hX];exact colS_all _ (by omega)),trivial⟩ rfl))) (A_H (A_T rfl (A_a rfl)))
 refine esp K5 ?_
 refine esr rfl fun _ K27=>?_
 refine A_A rfl (A_B runUnderlying27 rfl sizeOf24 (by decide) rfl) ?_
 refine A_A rfl (A_P (k:=1) ti24 rfl rfl rfl) ?_
 refine A_A rfl (A_S (CtrF.ctr (New_ok c.F hk.fld)) rfl) ?_
 refine emm rfl ?_
 refine A_A rfl (A_Q rfl rfl) ?_
 refine A_A rfl (A_Q rfl rfl) ?_
 refine emm rfl ?_
 refine enk K27 ?_
 refine A_C fun _ K28=>?_
 refine A_t 9 mixed (by kernel_rfl) (by kernel_rfl) (by kernel_rfl) ?_
 refine dw_o rfl (A_J rfl) ?_
 refine dw_o rfl (A_J rfl) ?_
 refine dw_o rfl (A_S (Order_ok c.F) rfl) ?_
 refine dw_o rfl (A_B runUnderlying27 rfl sizeOf3 (by decide) rfl) ?_
 refine dw_o rfl (A_L (k:=1) isAgg3 rfl rfl rfl) ?_
 refine dw_o rfl (A_B runUnderlying27 rfl sizeOf25 (by decide) rfl) ?_
 refine dw_o rfl (A_L (k:=0) isAgg25 rfl rfl rfl) ?_
 refine dw_o rfl (A_z rfl runUnderlying25 rfl) ?_
 refine dw_o rfl (ok_build st70 (As:=[aEx (.pointer none),aInt 0,aInt 0,aInt 0,aInt 0,aEx (.slice none 0 0)]) z70 (⟨0,1,rfl,.inl ⟨rfl,_,rfl,one_at,rfl,⟨1,1,rfl,.inl ⟨rfl,_,rfl,(A_F _),rfl,⟨2,1,rfl,.inl ⟨rfl,_,rfl,(A_F _),rfl,⟨3,1,rfl,.inl ⟨rfl,_,rfl,(A_F _),rfl,rfl⟩⟩⟩⟩⟩⟩⟩⟩)) ?_
 refine dw_nil ?_
 refine A_h rfl rfl (AllOne.mem ⟨one_at,(A_F _),(A_F _),(A_F _),(A_F _),(one_ex rfl),trivial⟩) (fun b51_9=>?_)
 refine emm rfl ?_
 refine enk K28 ?_
 refine A_C fun _ K29=>?_
 refine A_C fun _ K30=>?_
 refine ent_drawFl 15 [12] mixed (by kernel_rfl) (by kernel_rfl) (by kernel_rfl) (by kernel_rfl) (by kernel_rfl) (fun _ _ _ _ _ h=>h) ?_
 refine dw_o rfl (A_J rfl) ?_
 refine dw_o rfl (A_J rfl) ?_
 refine dw_o rfl (ok_nilCheckEx rfl) ?_
 refine dw_o rfl (A_B runUnderlying70 rfl sizeOf3 (by decide) rfl) ?_
 refine dw_o rfl (A_L (k:=0) isAgg3 rfl rfl rfl) ?_
 refine dw_o rfl (A_J rfl) ?_
 refine dw_o rfl (ok_nilCheckEx rfl) ?_
 refine dw_o rfl (A_B runUnderlying70 rfl sizeOf3 (by decide) rfl) ?_
 refine dw_o rfl (A_L (k:=0) isAgg3 rfl rfl rfl) ?_
 refine dw_o rfl (A_S (Exp_ok c.F.q (↑((dua c).Gen).length:Int) 65536 (by omega) (by omega) (by omega) (by omega) (by omega) (by omega)) rfl) ?_
 refine dw_o rfl (A_J rfl) ?_
 refine dw_o rfl (A_Q rfl rfl) ?_
 refine dw_o rfl (A_Q rfl rfl) ?_
 refine dw_o rfl (ok_nilCheckEx rfl) ?_
 refine dw_o rfl (A_B runUnderlying70 rfl sizeOf3 (by decide) rfl) ?_
 refine dw_nil ?_
 refine ent_storeB (k:=0) sizeOf3 rfl rfl rfl (A_F _) rfl ?_
 refine emm rfl ?_
 refine enk K30 ?_
 refine esr rfl fun _ K31=>?_
 refine A_A rfl (A_y rfl rfl) ?_
 refine enk K31 ?_
 refine A_E rfl (fun h68=>?_) (fun h68=>?_)
 ·exact absurd hx0 h68
 refine esp K29 ?_
 refine esr rfl fun _ K32=>?_
 refine A_A rfl (A_B runUnderlying27 rfl sizeOf3 (by decide) rfl) ?_
 refine A_A rfl (A_L (k:=2) isAgg3 rfl rfl rfl) ?_
 refine ent_make aH Hdr.no rfl vt25 rfl rfl (by omega) (by omega) (by omega) (fun _ _=>rfl) (AllV.mem ⟨rfl,trivial⟩) (fun b72_10=>?_)
 refine ent_rowsN 3 aInt ((c.N).toNat) ?_
 refine A_A rfl (ok_nilCheckEx rfl) ?_
 refine A_A rfl (A_B runUnderlying70 rfl sizeOf25 (by decide) rfl) ?_
 refine ent_storeB (k:=2) sizeOf25 rfl rfl rfl (one_ex rfl) rfl ?_
 refine enk K32 ?_
 refine A_C fun _ K33=>?_
 refine esr rfl fun _ K34=>?_
 refine A_A rfl (ok_nilCheckEx rfl) ?_
 refine A_A rfl (A_B runUnderlying70 rfl sizeOf25 (by decide) rfl) ?_
 refine A_A rfl (A_L (k:=2) isAgg25 rfl rfl rfl) ?_
 refine A_A rfl (ok_lenEx rfl runUnderlying25 rfl) ?_
 refine emm rfl ?_
 refine enk K34 ?_
 refine A_K ?_
 refine A_g (fun (ss:Int×List Hdr×List (List Int)×Option Nat×Nat)=>match ss with | (j,Hs,X,rr11,cc11)=>(⟨[(8,aEx (.pointer (some ⟨b8_2,0,none⟩))),(14,aEx (.pointer (some ⟨b51_9,0,none⟩))),(79,aInt (↑((c.N).toNat):Int)),(80,aInt j)],[oRws 3 aInt [] Hs X,oVec rr11 cc11 22 1 false aH Hs,oBox b51_9 70 [aGF c.F,aInt c.F.q,aInt c.N,aInt (↑((dua c).Gen).length:Int),aInt (expF c.F.q (↑((dua c).Gen).length:Int) 65536),aEx (vec rr11 ((Hs).length) cc11)],oBox b8_2 27 [aInt ((dua c).F.P),aInt ((dua c).F.M),aSl 1 false aInt ((dua c).F.mod),aInt ((dua c).N),aSl 1 false aInts ((dua c).Gen)],oBox b3_1 27 [aInt c.F.P,aInt c.F.M,aSl 1 false aInt c.F.mod,aInt c.N,aSl 1 false aInts c.Gen]]⟩:St)) (fun (ss:Int×List Hdr×List (List Int)×Option Nat×Nat)=>match ss with | (j,Hs,X,rr11,cc11)=>(0<=j)/\(j<=c.N)/\((Hs.length:Int)=c.N)/\(X=colS (dua c).Gen c.N j 0)) (fun (ss:Int×List Hdr×List (List Int)×Option Nat×Nat)=>match ss with | (j,Hs,X,rr11,cc11)=>(c.N-j).toNat) (0,List.replicate ((c.N).toNat) Hdr.no,List.replicate ((c.N).toNat) [],(some b72_10),(c.N).toNat) ⟨(by omega),(by omega),(by simp;omega),(colS_zero _).symm⟩ (A_I ⟨rfl,rfl,rfl,A_W (A_i (show 0=(0:Int) by rfl)),trivial⟩ (A_N (rfl) (A_N (rfl) (A_N (own_box (av_cons rfl (av_cons rfl (av_cons rfl (av_cons rfl (av_cons rfl (av_cons (av_vec (by simp)) (rfl)))))))) (rfl))))) ?_
 rintro ⟨j,Hs,X,rr11,cc11⟩ ⟨j0,j1,hH,hX⟩
 show Ent _ ⟨_,[_,_,_,_,_]⟩ _
 have lX:(X.length:Int)=c.N:=by rw [hX,length_colS];omega
 refine esr rfl fun _ K35=>?_
 refine A_A rfl (A_o rfl rfl) ?_
 refine enk K35 ?_
 refine A_C fun _ K36=>?_
 refine A_E rfl (fun h81=>?_) (fun h81=>?_)
 ·refine esp K36 ?_
  refine A_C fun _ K37=>?_
  refine A_K ?_
  refine esk rfl ?_
  refine esr rfl fun _ K39=>?_
  refine A_A rfl (A_B runUnderlying27 rfl sizeOf25 (by decide) rfl) ?_
  refine A_A rfl (A_L (k:=3) isAgg25 rfl rfl rfl) ?_
  refine A_A rfl (A_z rfl runUnderlying25 rfl) ?_
  refine emm rfl ?_
  refine enk K39 ?_
  refine A_K ?_
  refine A_g (fun (ss:Int×List Hdr×List (List Int)×Option Nat×Nat)=>match ss with | (m,Hs2,X2,rr12,cc12)=>(⟨[(8,aEx (.pointer (some ⟨b8_2,0,none⟩))),(14,aEx (.pointer (some ⟨b51_9,0,none⟩))),(15,aInt j),(79,aInt (↑((c.N).toNat):Int)),(80,aInt j),(84,aSl 1 false aInts ((dua c).Gen)),(85,aInt (↑((dua c).Gen).length:Int)),(86,aInt m)],[oRws 3 aInt [] Hs2 X2,oVec rr12 cc12 22 1 false aH Hs2,oBox b51_9 70 [aGF c.F,aInt c.F.q,aInt c.N,aInt (↑((dua c).Gen).length:Int),aInt (expF c.F.q (↑((dua c).Gen).length:Int) 65536),aEx (vec rr12 ((Hs2).length) cc12)],oBox b8_2 27 [aInt ((dua c).F.P),aInt ((dua c).F.M),aSl 1 false aInt ((dua c).F.mod),aInt ((dua c).N),aSl 1 false aInts ((dua c).Gen)],oBox b3_1 27 [aInt c.F.P,aInt c.F.M,aSl 1 false aInt c.F.mod,aInt c.N,aSl 1 false aInts c.Gen]]⟩:St)) (fun (ss:Int×List Hdr×List (List Int)×Option Nat×Nat)=>match ss with | (m,Hs2,X2,rr12,cc12)=>(0<=m)/\(m<=(dua c).Gen.length)/\((Hs2.length:Int)=c.N)/\(X2=colS (dua c).Gen c.N j m)) (fun (ss:Int×List Hdr×List (List Int)×Option Nat×Nat)=>match ss with | (m,Hs2,X2,rr12,cc12)=>((dua c).Gen.length-m).toNat) (0,Hs,X,rr11,cc11) ⟨(by omega),(by omega),hH,hX⟩ (A_I ⟨rfl,rfl,rfl,rfl,rfl,rfl,rfl,A_W (A_i (show 0=(0:Int) by rfl)),trivial⟩ rfl) ?_
  rintro ⟨m,Hs2,X2,rr12,cc12⟩ ⟨m0,m1,hH2,hX2⟩
  show Ent _ ⟨_,[_,_,_,_,_]⟩ _
  have lX2:(X2.length:Int)=c.N:=by rw [hX2,length_colS];omega
  refine esr rfl fun _ K40=>?_
  refine A_A rfl (A_o rfl rfl) ?_
  refine enk K40 ?_
  refine A_C fun _ K41=>?_
  refine A_E rfl (fun h87=>?_) (fun h87=>?_)
  ·have hrow:((ix [] (dua c).Gen m).length:Int)=c.N:=hk.dua.row m0 (by omega)
   have lxj:(ix [] X2 j).length=m.toNat:=by rw [hX2,ix_colS _ j0 (by omega)];simp;omega
   refine esp K41 ?_
   refine A_C fun _ K42=>?_
   refine A_K ?_
   refine esr rfl fun _ K43=>?_
   refine A_A rfl (A_d [] sl25 rfl rfl (by omega) (by omega)) ?_
   refine A_A rfl (A_V ti22 rfl) ?_
   refine emm rfl ?_
   refine enk K43 ?_
   refine ent_drawP2 17 [0,1,2,3,4] [(90,aEx (.pointer (some ⟨b51_9,0,none⟩))),(91,aEx (.pointer (some ⟨b51_9,0,none⟩))),(92,aEx (.pointer (some ⟨b51_9,5,none⟩))),(93,aEx (vec rr12 ((Hs2).length) cc12)),(94,aInt j)] [(8,aEx (.pointer (some ⟨b8_2,0,none⟩))),(14,aEx (.pointer (some ⟨b51_9,0,none⟩))),(15,aInt j),(79,aInt (↑((c.N).toNat):Int)),(80,aInt j),(84,aSl 1 false aInts ((dua c).Gen)),(85,aInt (↑((dua c).Gen).length:Int)),(86,aInt m),(101,aH (ix Hdr.no Hs2 j)),(106,aSl 1 false aInt [ix 0 (ix [] ((dua c).Gen) m) j])] mixed (by kernel_rfl) (by kernel_rfl) rfl (by decide) rfl (by kernel_rfl) (AllPlS.mem ⟨pl_ex,pl_ex,pl_ex,pl_ex,pl_ex,trivial⟩) ?_ ?_
   ·refine dw_o rfl (A_J rfl) ?_
    refine dw_o rfl (ok_nilCheckEx rfl) ?_
    refine dw_o rfl (A_B runUnderlying70 rfl sizeOf25 (by decide) rfl) ?_
    refine dw_o rfl (A_L (k:=2) isAgg25 rfl rfl rfl) ?_
    refine dw_o rfl (A_J rfl) ?_
    refine dw_o rfl (A_J rfl) ?_
    refine dw_o rfl (ok_nilCheckEx rfl) ?_
    refine dw_o rfl (A_B runUnderlying70 rfl sizeOf25 (by decide) rfl) ?_
    refine dw_o rfl (A_L (k:=2) isAgg25 rfl rfl rfl) ?_
    refine dw_o rfl (A_J rfl) ?_
    refine dw_o rfl (ok_indexV0 (k:=1) sl25 rfl rfl rfl rfl (by omega) (by omega)) ?_
    refine dw_o rfl (ok_loadV0 (k:=1) Hdr.no ti22 rfl rfl (by omega) (by omega)) ?_
    refine dw_o rfl (A_J rfl) ?_
    refine dw_o rfl (A_J rfl) ?_
    refine dw_o rfl (A_d 0 sl22 rfl rfl (by omega) (by omega)) ?_
    refine dw_o rfl (A_V ti3 rfl) ?_
    refine dw_o rfl (ok_build1 (enc:=aInt) (y:=ix 0 (ix [] ((dua c).Gen) m) j) vt22 rfl (A_u (A_F _)) (by decide)) ?_
    refine dw_nil ?_
    exact ⟨⟨rfl,rfl,rfl,rfl,rfl,rfl,rfl,rfl,rfl,rfl,trivial⟩,⟨rfl,rfl,rfl,rfl,rfl,trivial⟩⟩
   refine ent_takeRow 0 j rfl (by omega) (by omega) (by exact List.not_mem_nil) (fun hn101=>?_)
   refine ent_appendS (k:=0) rfl vt22 rfl rfl ‹_› rfl (cv_id sub_refl) (by simp only [List.length_append,List.length_cons,List.length_nil];omega) (by simp only [List.length_append,List.length_cons,List.length_nil];omega) (fun r107_13 cr107_13=>?_)
   refine A_O ?_
   refine ent_QK ?_
   refine ent_ph1 (t0:=some 107) 17 [0,1,2,3,4] [(90,aEx (.pointer (some ⟨b51_9,0,none⟩))),(91,aEx (.pointer (some ⟨b51_9,0,none⟩))),(92,aEx (.pointer (some ⟨b51_9,5,none⟩))),(93,aEx (vec rr12 ((Hs2).length) cc12)),(94,aInt j)] (by kernel_rfl) (by kernel_rfl) (by decide) (by decide) (by kernel_rfl) rfl (AllPlS.mem ⟨pl_ex,pl_ex,pl_ex,pl_ex,pl_ex,trivial⟩) (by kernel_rfl) ?_
   refine dwi_o (o:=⟨_,_,_,_,_,_⟩) rfl rfl rfl ?_ ?_
   ·exact OpOK.eqv (A_J rfl) rfl
   refine dwi_o (o:=⟨_,_,_,_,_,_⟩) rfl rfl rfl ?_ ?_
   ·exact OpOK.eqv (ok_nilCheckEx rfl) rfl
   refine dwi_o (o:=⟨_,_,_,_,_,_⟩) rfl rfl rfl ?_ ?_
   ·exact OpOK.eqv (A_B runUnderlying70 rfl sizeOf25 (by decide) rfl) rfl
   refine dwi_o (o:=⟨_,_,_,_,_,_⟩) rfl rfl rfl ?_ ?_
   ·exact OpOK.eqv (A_L (k:=3) isAgg25 rfl rfl rfl) rfl
   refine dwi_o (o:=⟨_,_,_,_,_,_⟩) rfl rfl rfl ?_ ?_
   ·exact OpOK.eqv (A_J rfl) rfl
   refine A_A rfl (ok_indexV0 (k:=2) sl25 rfl rfl rfl rfl (by omega) (by omega)) ?_
   refine ent_storeV0 (k:=2) (z:=⟨r107_13,((ix [] X2 j)++[ix 0 (ix [] ((dua c).Gen) m) j]).length,cr107_13⟩) ti22 rfl rfl rfl (A_u (one_ex rfl)) (by omega) (by omega) ?_
   refine ent_putRow 1 0 j (m:=((ix [] X2 j)++[ix 0 (ix [] ((dua c).Gen) m) j]).length) [] rfl rfl (by decide) (by simp) rfl ?_
   refine enk K42 ?_
   refine A_D ?_
   refine A_A rfl (A_m rfl rfl (by omega) (by omega)) ?_
   refine emm rfl ?_
   refine A_O ?_
   refine A_X (s:=(m,Hs2,X2,rr12,cc12)) (m+1,List.set Hs2 (j).toNat ⟨r107_13,((ix [] X2 j)++[ix 0 (ix [] ((dua c).Gen) m) j]).length,cr107_13⟩,List.set X2 (j).toNat ((ix [] X2 j)++[ix 0 (ix [] ((dua c).Gen) m) j]),rr12,cc12) ⟨(by omega),‹_›,(by simp only [List.length_set];exact hH2),(by rw [hX2];exact colS_step _ j0 (by omega) m0 (by omega))⟩ (by dsimp only;omega) (A_I ⟨rfl,rfl,rfl,rfl,rfl,rfl,rfl,rfl,trivial⟩ (A_N (rfl) (A_N (A_n (show (List.set Hs2 (j).toNat ⟨r107_13,((ix [] X2 j)++[ix 0 (ix [] ((dua c).Gen) m) j]).length,cr107_13⟩)=List.set Hs2 (j).toNat (⟨r107_13,((ix [] X2 j)++[ix 0 (ix [] ((dua c).Gen) m) j]).length,cr107_13⟩) by rfl)) (A_N (own_box (av_cons rfl (av_cons rfl (av_cons rfl (av_cons rfl (av_cons rfl (av_cons (av_vec (by simp)) (rfl)))))))) (rfl)))))
  refine A_e ?_
  refine A_s K37 ?_
  refine A_D ?_
  refine A_A rfl (A_m rfl rfl (by omega) (by omega)) ?_
  refine emm rfl ?_
  refine A_O ?_
  refine A_X (s:=(j,Hs,X,rr11,cc11)) (j+1,Hs2,X2,rr12,cc12) ⟨(by omega),(by omega),‹_›,(by rw [hX2];exact colS_next _ j0 (by omega))⟩ (by dsimp only;omega) (A_I ⟨rfl,rfl,rfl,rfl,trivial⟩ rfl)
 refine A_e ?_
 refine A_s K33 ?_
 refine A_C fun _ K44=>?_
 refine ent_frzRows 1 0 rfl rfl (by decide) ?_
 refine A_D ?_
 refine emm rfl ?_
 refine enk K44 ?_
 refine A_R ?_
 exact retR2 (.inr rfl) results54 (A_H (A_T rfl (cv_box (k:=1) (off_x rfl) ⟨cv_id sub_x,A_a rfl,A_a rfl,A_a rfl,A_a (by exact hxv),cv_vec (k:=0) (off_x rfl) (by omega) (by rw [hX];exact colS_all _ (by omega)),trivial⟩ rfl))) (A_H (A_T rfl (A_a rfl)))

theorem cso_noA (c:Cod) (y:List Int) (d:Bool) (hc:codE c≠0):Ctr Tryz.prog 54 [aCod c,aSl 1 false aInt y,aBool d] (aTup [aEx (.pointer none),aInt (opE c y d)]):=by
 refine A_p Tryz.call54 func54 rfl rfl ?_
 intro w O
 refine A_Y 0 2 rfl rfl (fun hlen0_2=>?_)
 refine A_Y 0 4 rfl rfl (fun hlen0_4=>?_)
 refine A_x 1 rfl (fun hlen1=>?_)
 refine esr rfl fun _ K1=>?_
 refine A_h rfl rfl (AllOne.mem ⟨(A_F _),(A_F _),A_c,(A_F _),A_c,trivial⟩) (fun b3_1=>?_)
 refine emm rfl ?_
 refine enk K1 ?_
 refine esr rfl fun _ K2=>?_
 refine A_A rfl (A_P (k:=0) ti27 rfl rfl rfl) ?_
 refine A_A rfl (A_S (Dual_no c hc) rfl) ?_
 refine emm rfl ?_
 refine A_A rfl (A_Q rfl rfl) ?_
 refine A_A rfl (A_Q rfl rfl) ?_
 refine ent_alloc (z:=.agg #[.int .i64 0,.int .i64 0,.slice none 0 0,.int .i64 0,.slice none 0 0]) [aInt 0,aInt 0,aEx (.slice none 0 0),aInt 0,aEx (.slice none 0 0)] rfl zv27 rfl zc27 (fun b8_2=>?_)
 refine ent_storeBS (k:=0) sizeOf27 rfl rfl rfl (AllOne.mem ⟨(A_F _),(A_F _),A_c,(A_F _),A_c,trivial⟩) rfl rfl ?_
 show Ent _ ⟨_,[_,_]⟩ _
 refine emm rfl ?_
 refine enk K2 ?_
 refine A_C fun _ K3=>?_
 refine esr rfl fun _ K4=>?_
 refine A_A rfl (A_y rfl rfl) ?_
 refine enk K4 ?_
 refine A_E rfl (fun h24=>?_) (fun h24=>?_)
 ·refine esk rfl ?_
  refine A_R ?_
  exact retR2 (.inr rfl) results54 (A_H (A_T rfl (cv_id sub_x))) (A_H (A_T rfl (A_a (by exact (opE_code hc).symm))))
 exact absurd (Classical.not_not.1 h24) hc

theorem cso_noB (c:Cod) (y:List Int) (d:Bool) (hk:COk c) (h:opE c y d≠0):Ctr Tryz.prog 54 [aCod c,aSl 1 false aInt y,aBool d] (aTup [aEx (.pointer none),aInt (opE c y d)]):=by
 have hn1:=hk.n1
 have hn64:=hk.n64
 have hln:=hk.len
 have hqb:=hk.fld.1.bd
 have hdd:=hk.dim_dua
 refine A_p Tryz.call54 func54 rfl rfl ?_
 intro w O
 refine A_Y 0 2 rfl rfl (fun hlen0_2=>?_)
 refine A_Y 0 4 rfl rfl (fun hlen0_4=>?_)
 refine A_x 1 rfl (fun hlen1=>?_)
 refine esr rfl fun _ K1=>?_
 refine A_h rfl rfl (AllOne.mem ⟨(A_F _),(A_F _),A_c,(A_F _),A_c,trivial⟩) (fun b3_1=>?_)
 refine emm rfl ?_
 refine enk K1 ?_
 refine esr rfl fun _ K2=>?_
 refine A_A rfl (A_P (k:=0) ti27 rfl rfl rfl) ?_
 refine A_A rfl (A_S (Dual_ok c hk) rfl) ?_
 refine emm rfl ?_
 refine A_A rfl (A_Q rfl rfl) ?_
 refine A_A rfl (A_Q rfl rfl) ?_
 refine ent_alloc (z:=.agg #[.int .i64 0,.int .i64 0,.slice none 0 0,.int .i64 0,.slice none 0 0]) [aInt 0,aInt 0,aEx (.slice none 0 0),aInt 0,aEx (.slice none 0 0)] rfl zv27 rfl zc27 (fun b8_2=>?_)
 refine ent_storeBS (k:=0) sizeOf27 rfl rfl rfl (AllOne.mem ⟨(A_F _),(A_F _),A_c,(A_F _),A_c,trivial⟩) rfl rfl ?_
 show Ent _ ⟨_,[_,_]⟩ _
 refine emm rfl ?_
 refine enk K2 ?_
 refine A_C fun _ K3=>?_
 refine esr rfl fun _ K4=>?_
 refine A_A rfl (A_y rfl rfl) ?_
 refine enk K4 ?_
 refine ent_condFP rfl (by decide) ?_
 refine esp K3 ?_
 refine A_C fun _ K5=>?_
 refine esk rfl ?_
 refine ent_cond rfl (fun h26=>?_) (fun h26=>?_)
 ·refine esr rfl fun _ K7=>?_
  refine A_A rfl (A_P (k:=1) ti27 rfl rfl rfl) ?_
  refine emm rfl ?_
  refine A_A rfl (A_S (cSyn_ok c y) rfl) ?_
  refine emm rfl ?_
  refine A_A rfl (A_Q rfl rfl) ?_
  refine A_A rfl (A_Q rfl rfl) ?_
  refine emm rfl ?_
  refine enk K7 ?_
  refine esr rfl fun _ K8=>?_
  refine A_A rfl (A_y rfl rfl) ?_
  refine enk K8 ?_
  refine A_E rfl (fun h34=>?_) (fun h34=>?_)
  ·refine esk rfl ?_
   refine A_R ?_
   exact retR2 (.inr rfl) results54 (A_H (A_T rfl (cv_id sub_x))) (A_H (A_T rfl (A_a (by exact (opE_word h26 h34).symm))))
  have hcs1:=opE_cs (c:=c) (y:=y) (d:=d) (.inr (Classical.not_not.1 h34))
  refine esp K5 ?_
  refine esr rfl fun _ K10=>?_
  refine A_A rfl (A_B runUnderlying27 rfl sizeOf24 (by decide) rfl) ?_
  refine A_A rfl (A_P (k:=1) ti24 rfl rfl rfl) ?_
  refine A_A rfl (A_S (CtrF.ctr (New_ok c.F hk.fld)) rfl) ?_
  refine emm rfl ?_
  refine A_A rfl (A_Q rfl rfl) ?_
  refine A_A rfl (A_Q rfl rfl) ?_
  refine emm rfl ?_
  refine enk K10 ?_
  refine A_C fun _ K11=>?_
  refine A_t 9 mixed (by kernel_rfl) (by kernel_rfl) (by kernel_rfl) ?_
  refine dw_o rfl (A_J rfl) ?_
  refine dw_o rfl (A_J rfl) ?_
  refine dw_o rfl (A_S (Order_ok c.F) rfl) ?_
  refine dw_o rfl (A_B runUnderlying27 rfl sizeOf3 (by decide) rfl) ?_
  refine dw_o rfl (A_L (k:=1) isAgg3 rfl rfl rfl) ?_
  refine dw_o rfl (A_B runUnderlying27 rfl sizeOf25 (by decide) rfl) ?_
  refine dw_o rfl (A_L (k:=0) isAgg25 rfl rfl rfl) ?_
  refine dw_o rfl (A_z rfl runUnderlying25 rfl) ?_
  refine dw_o rfl (ok_build st70 (As:=[aEx (.pointer none),aInt 0,aInt 0,aInt 0,aInt 0,aEx (.slice none 0 0)]) z70 (⟨0,1,rfl,.inl ⟨rfl,_,rfl,one_at,rfl,⟨1,1,rfl,.inl ⟨rfl,_,rfl,(A_F _),rfl,⟨2,1,rfl,.inl ⟨rfl,_,rfl,(A_F _),rfl,⟨3,1,rfl,.inl ⟨rfl,_,rfl,(A_F _),rfl,rfl⟩⟩⟩⟩⟩⟩⟩⟩)) ?_
  refine dw_nil ?_
  refine A_h rfl rfl (AllOne.mem ⟨one_at,(A_F _),(A_F _),(A_F _),(A_F _),(one_ex rfl),trivial⟩) (fun b51_3=>?_)
  refine emm rfl ?_
  refine enk K11 ?_
  refine A_C fun _ K12=>?_
  refine A_C fun _ K13=>?_
  refine ent_drawFl 15 [12] mixed (by kernel_rfl) (by kernel_rfl) (by kernel_rfl) (by kernel_rfl) (by kernel_rfl) (fun _ _ _ _ _ h=>h) ?_
  refine dw_o rfl (A_J rfl) ?_
  refine dw_o rfl (A_J rfl) ?_
  refine dw_o rfl (ok_nilCheckEx rfl) ?_
  refine dw_o rfl (A_B runUnderlying70 rfl sizeOf3 (by decide) rfl) ?_
  refine dw_o rfl (A_L (k:=0) isAgg3 rfl rfl rfl) ?_
  refine dw_o rfl (A_J rfl) ?_
  refine dw_o rfl (ok_nilCheckEx rfl) ?_
  refine dw_o rfl (A_B runUnderlying70 rfl sizeOf3 (by decide) rfl) ?_
  refine dw_o rfl (A_L (k:=0) isAgg3 rfl rfl rfl) ?_
  refine dw_o rfl (A_S (Exp_ok c.F.q (↑((dua c).Gen).length:Int) 65536 (by omega) (by omega) (by omega) (by omega) (by omega) (by omega)) rfl) ?_
  refine dw_o rfl (A_J rfl) ?_
  refine dw_o rfl (A_Q rfl rfl) ?_
  refine dw_o rfl (A_Q rfl rfl) ?_
  refine dw_o rfl (ok_nilCheckEx rfl) ?_
  refine dw_o rfl (A_B runUnderlying70 rfl sizeOf3 (by decide) rfl) ?_
  refine dw_nil ?_
  refine ent_storeB (k:=0) sizeOf3 rfl rfl rfl (A_F _) rfl ?_
  refine emm rfl ?_
  refine enk K13 ?_
  refine esr rfl fun _ K14=>?_
  refine A_A rfl (A_y rfl rfl) ?_
  refine enk K14 ?_
  refine A_E rfl (fun h68=>?_) (fun h68=>?_)
  ·have he:opE c y d=8:=by rw [hcs1,csE_exp hk];exact expE_err h68
   refine esk rfl ?_
   refine A_R ?_
   exact retR2 (.inr rfl) results54 (A_H (A_T rfl (cv_id sub_x))) (A_H (A_T rfl (A_a (by exact he.symm))))
  exact absurd (hcs1.trans ((csE_exp hk).trans (Classical.not_not.1 h68))) h
 have hcs1:=opE_cs (c:=c) (y:=y) (d:=d) (.inl h26)
 refine esp K5 ?_
 refine esr rfl fun _ K16=>?_
 refine A_A rfl (A_B runUnderlying27 rfl sizeOf24 (by decide) rfl) ?_
 refine A_A rfl (A_P (k:=1) ti24 rfl rfl rfl) ?_
 refine A_A rfl (A_S (CtrF.ctr (New_ok c.F hk.fld)) rfl) ?_
 refine emm rfl ?_
 refine A_A rfl (A_Q rfl rfl) ?_
 refine A_A rfl (A_Q rfl rfl) ?_
 refine emm rfl ?_
 refine enk K16 ?_
 refine A_C fun _ K17=>?_
 refine A_t 9 mixed (by kernel_rfl) (by kernel_rfl) (by kernel_rfl) ?_
 refine dw_o rfl (A_J rfl) ?_
 refine dw_o rfl (A_J rfl) ?_
 refine dw_o rfl (A_S (Order_ok c.F) rfl) ?_
 refine dw_o rfl (A_B runUnderlying27 rfl sizeOf3 (by decide) rfl) ?_
 refine dw_o rfl (A_L (k:=1) isAgg3 rfl rfl rfl) ?_
 refine dw_o rfl (A_B runUnderlying27 rfl sizeOf25 (by decide) rfl) ?_
 refine dw_o rfl (A_L (k:=0) isAgg25 rfl rfl rfl) ?_
 refine dw_o rfl (A_z rfl runUnderlying25 rfl) ?_
 refine dw_o rfl (ok_build st70 (As:=[aEx (.pointer none),aInt 0,aInt 0,aInt 0,aInt 0,aEx (.slice none 0 0)]) z70 (⟨0,1,rfl,.inl ⟨rfl,_,rfl,one_at,rfl,⟨1,1,rfl,.inl ⟨rfl,_,rfl,(A_F _),rfl,⟨2,1,rfl,.inl ⟨rfl,_,rfl,(A_F _),rfl,⟨3,1,rfl,.inl ⟨rfl,_,rfl,(A_F _),rfl,rfl⟩⟩⟩⟩⟩⟩⟩⟩)) ?_
 refine dw_nil ?_
 refine A_h rfl rfl (AllOne.mem ⟨one_at,(A_F _),(A_F _),(A_F _),(A_F _),(one_ex rfl),trivial⟩) (fun b51_4=>?_)
 refine emm rfl ?_
 refine enk K17 ?_
 refine A_C fun _ K18=>?_
 refine A_C fun _ K19=>?_
 refine ent_drawFl 15 [12] mixed (by kernel_rfl) (by kernel_rfl) (by kernel_rfl) (by kernel_rfl) (by kernel_rfl) (fun _ _ _ _ _ h=>h) ?_
 refine dw_o rfl (A_J rfl) ?_
 refine dw_o rfl (A_J rfl) ?_
 refine dw_o rfl (ok_nilCheckEx rfl) ?_
 refine dw_o rfl (A_B runUnderlying70 rfl sizeOf3 (by decide) rfl) ?_
 refine dw_o rfl (A_L (k:=0) isAgg3 rfl rfl rfl) ?_
 refine dw_o rfl (A_J rfl) ?_
 refine dw_o rfl (ok_nilCheckEx rfl) ?_
 refine dw_o rfl (A_B runUnderlying70 rfl sizeOf3 (by decide) rfl) ?_
 refine dw_o rfl (A_L (k:=0) isAgg3 rfl rfl rfl) ?_
 refine dw_o rfl (A_S (Exp_ok c.F.q (↑((dua c).Gen).length:Int) 65536 (by omega) (by omega) (by omega) (by omega) (by omega) (by omega)) rfl) ?_
 refine dw_o rfl (A_J rfl) ?_
 refine dw_o rfl (A_Q rfl rfl) ?_
 refine dw_o rfl (A_Q rfl rfl) ?_
 refine dw_o rfl (ok_nilCheckEx rfl) ?_
 refine dw_o rfl (A_B runUnderlying70 rfl sizeOf3 (by decide) rfl) ?_
 refine dw_nil ?_
 refine ent_storeB (k:=0) sizeOf3 rfl rfl rfl (A_F _) rfl ?_
 refine emm rfl ?_
 refine enk K19 ?_
 refine esr rfl fun _ K20=>?_
 refine A_A rfl (A_y rfl rfl) ?_
 refine enk K20 ?_
 refine A_E rfl (fun h68=>?_) (fun h68=>?_)
 ·have he:opE c y d=8:=by rw [hcs1,csE_exp hk];exact expE_err h68
  refine esk rfl ?_
  refine A_R ?_
  exact retR2 (.inr rfl) results54 (A_H (A_T rfl (cv_id sub_x))) (A_H (A_T rfl (A_a (by exact he.symm))))
 exact absurd (hcs1.trans ((csE_exp hk).trans (Classical.not_not.1 h68))) h

theorem cso_no (c:Cod) (y:List Int) (d:Bool) (h:opE c y d≠0):Ctr Tryz.prog 54 [aCod c,aSl 1 false aInt y,aBool d] (aTup [aEx (.pointer none),aInt (opE c y d)]):=by
 by_cases hc:codE c=0
 ·exact cso_noB c y d (codE_zero.1 hc) h
 exact cso_noA c y d hc

theorem Count_yes (c:Cod) (ho:opE c [] false=0):Ctr Tryz.prog 32 [aCod c] (aTup [aInt (csV c),aInt (csE c)]):=by
 refine A_p Tryz.call32 func32 rfl rfl ?_
 intro w O
 refine A_Y 0 2 rfl rfl (fun hlen0_2=>?_)
 refine A_Y 0 4 rfl rfl (fun hlen0_4=>?_)
 refine esr rfl fun _ K1=>?_
 refine A_h rfl rfl (AllOne.mem ⟨(A_F _),(A_F _),A_c,(A_F _),A_c,trivial⟩) (fun b1_1=>?_)
 refine emm rfl ?_
 refine enk K1 ?_
 refine esr rfl fun _ K2=>?_
 refine A_A rfl (A_P (k:=0) ti27 rfl rfl rfl) ?_
 refine A_A rfl (ok_callA (cso_ok c [] false ho) ⟨arg_a rfl (cv_id sub_refl),arg_a rfl (cv_nil (fun _=>rfl) rfl),arg_a rfl (cv_id sub_refl),trivial⟩) ?_
 refine emm rfl ?_
 refine A_A rfl (A_Q rfl rfl) ?_
 refine A_A rfl (A_Q rfl rfl) ?_
 refine emm rfl ?_
 refine enk K2 ?_
 refine A_C fun _ K3=>?_
 refine esr rfl fun _ K4=>?_
 refine A_A rfl (A_y rfl rfl) ?_
 refine enk K4 ?_
 refine ent_condFP rfl (by decide) ?_
 refine esp K3 ?_
 refine esr rfl fun _ K5=>?_
 refine A_A rfl (A_q rfl) ?_
 refine A_A rfl (A_f runUnderlying70 rfl sizeOf3 rfl rfl) ?_
 refine A_A rfl (A_V ti3 rfl) ?_
 refine emm rfl ?_
 refine enk K5 ?_
 refine A_R ?_
 exact retR2 (.inr rfl) results32 (A_H (A_T rfl (A_a (by unfold csV;rw [if_pos (show csE c=0 from ho)])))) (A_H (A_T rfl (A_a (by exact ho.symm))))

theorem Count_no (c:Cod) (ho:opE c [] false≠0):Ctr Tryz.prog 32 [aCod c] (aTup [aInt (csV c),aInt (csE c)]):=by
 refine A_p Tryz.call32 func32 rfl rfl ?_
 intro w O
 refine A_Y 0 2 rfl rfl (fun hlen0_2=>?_)
 refine A_Y 0 4 rfl rfl (fun hlen0_4=>?_)
 refine esr rfl fun _ K1=>?_
 refine A_h rfl rfl (AllOne.mem ⟨(A_F _),(A_F _),A_c,(A_F _),A_c,trivial⟩) (fun b1_1=>?_)
 refine emm rfl ?_
 refine enk K1 ?_
 refine esr rfl fun _ K2=>?_
 refine A_A rfl (A_P (k:=0) ti27 rfl rfl rfl) ?_
 refine A_A rfl (ok_callA (cso_no c [] false ho) ⟨arg_a rfl (cv_id sub_refl),arg_a rfl (cv_nil (fun _=>rfl) rfl),arg_a rfl (cv_id sub_refl),trivial⟩) ?_
 refine emm rfl ?_
 refine A_A rfl (A_Q rfl rfl) ?_
 refine A_A rfl (A_Q rfl rfl) ?_
 refine emm rfl ?_
 refine enk K2 ?_
 refine A_C fun _ K3=>?_
 refine esr rfl fun _ K4=>?_
 refine A_A rfl (A_y rfl rfl) ?_
 refine enk K4 ?_
 refine A_E rfl (fun h12=>?_) (fun h12=>?_)
 ·refine esk rfl ?_
  refine A_R ?_
  exact retR2 (.inr rfl) results32 (A_H (A_T rfl (A_a (by exact (if_neg ho).symm)))) (A_H (A_T rfl (A_a rfl)))
 exact absurd (Classical.not_not.1 h12) ho

theorem Count_ok (c:Cod):Ctr Tryz.prog 32 [aCod c] (aTup [aInt (csV c),aInt (csE c)]):=by
 by_cases ho:opE c [] false=0
 ·exact Count_yes c ho
 exact Count_no c ho
end Go.Proofs.YtcilbmggiahciaaGreat

