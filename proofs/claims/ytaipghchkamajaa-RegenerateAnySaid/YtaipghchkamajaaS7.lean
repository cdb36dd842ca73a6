/-
  Walks of functions of the program and the reference.
-/
import Derived.Test.YtaipghchkamajaaS6
open Go Go.Cw
namespace Go.Proofs.Ytaipghchkamajaa
open Try
set_option maxRecDepth 100000
set_option linter.unusedVariables false
set_option linter.unusedSimpArgs false
theorem middleW_ok (r:Rgn) (xs:List Int) (cs:List (List Int)) (a:Int) (P:List (List Int)) (hF:FOk r.F) (hx:∀x∈xs,0<=x/\x<r.F.q) (hn:xs.Nodup) (hl:(xs.length:Int)=a+1) (a1:1<=a) (a2:a<=200) (hq:a<=r.F.q-1) (hPl:(P.length:Int)=a+1) (hPg:good r.F (a+1).toNat P):CtrW Try.prog 113 [] [aSlv r xs cs,aAgg [aInt a,aSl 1 false aInts (vdm r.F xs a)],aSl 1 false aInts P] (fun (y:Option Nat×Nat)=>match y with | (ro,co)=>True) (fun (y:Option Nat×Nat)=>match y with | (ro,co)=>aEx (vec ro ((midV r.F a xs P).length) co)) (fun (y:Option Nat×Nat)=>match y with | (ro,co)=>[oVec ro co 29 1 false aInts (midV r.F a xs P)]) :=
 (middle_ok r xs cs a P hF hx hn hl a1 a2 hq hPl hPg).vec
set_option maxHeartbeats 4000000 in
theorem storage_ok (r:Rgn) (ws:List Int) (cs:List (List Int)) (Q:RecF r ws cs) (hk:r.Kind=1):Ctr Try.prog 79 [aSlv r (pickL r.Points ws) cs] (aSl 1 false aInts (stM r (pickL r.Points ws) cs)):=by
 have SF:=st_facts Q hk
 have N:=Q.N
 have R:=Q.R
 have hF:=R.fld
 have hka:=SF.a
 have hkk:=SF.k
 have hxl:=SF.l
 have hcl:=SF.cl
 refine ctr_of Try.call79 func79 rfl rfl ?_
 intro w O
 refine A_q 0 2 rfl rfl (fun hlen0_2=>?_)
 refine A_q 0 6 rfl rfl (fun hlen0_6=>?_)
 refine A_q 0 8 rfl rfl (fun hlen0_8=>?_)
 refine A_q 0 9 rfl rfl (fun hlen0_9=>?_)
 refine esk rfl ?_
 refine esr rfl fun _ K2=>?_
 refine A_A rfl (A_b rfl) ?_
 refine A_A rfl (A_k runUnderlying118 rfl sizeOf53 (by decide) (Nat.le_of_ble_eq_true rfl) rfl) ?_
 refine A_A rfl (A_Y runUnderlying53 rfl sizeOf3 rfl rfl) ?_
 refine A_A rfl (A_P ti3 rfl) ?_
 refine emm rfl ?_
 refine enk K2 ?_
 refine esr rfl fun _ K3=>?_
 refine A_A rfl (ok_sub rfl rfl (by omega) (by omega)) ?_
 refine emm rfl ?_
 refine enk K3 ?_
 refine A_C fun _ K4=>?_
 refine ent_drawB2 (T:=107) (z:=.agg #[.int .i64 0,.slice none 0 0]) (As:=[aInt 0,aEx (.slice none 0 0)]) 11 [] 10 5 [(22,aSlv r (pickL r.Points ws) cs),(23,aSlv r (pickL r.Points ws) cs),(24,aAt 1 false (aGF r.F)),(25,aGF r.F),(26,aSlv r (pickL r.Points ws) cs),(27,aSlv r (pickL r.Points ws) cs),(28,aAt 1 false (aSl 1 false aInt (pickL r.Points ws))),(29,aSl 1 false aInt (pickL r.Points ws)),(30,aInt (r.K-1)),(31,aMat (⟨(r.K-1),vdm r.F (pickL r.Points ws) (r.K-1)⟩:Mat)),(5,aBoxF w.heap.size 107 [aInt 0,aEx (.slice none 0 0)])] mixed (by kernel_rfl) (by kernel_rfl) (by kernel_rfl) (by kernel_rfl) (by kernel_rfl) (fun _ _ _ _ _ h=>h) rfl (by kernel_rfl) (by kernel_rfl) (fun _=>by kernel_rfl) (fun _=>by kernel_rfl) (fun _=>by kernel_rfl) zv107 rfl zc107 (by kernel_rfl) ?_ (fun bb_1=>?_)
 ·refine A_c rfl rfl (OpOK.eqv (A_D rfl) rfl) ?_
  refine A_c rfl rfl (OpOK.eqv (A_b rfl) rfl) ?_
  refine A_c rfl rfl (OpOK.eqv (A_Y runUnderlying118 rfl sizeOf95 rfl rfl) rfl) ?_
  refine A_c rfl rfl (OpOK.eqv (A_P ti95 rfl) rfl) ?_
  refine A_c rfl rfl (OpOK.eqv (A_D rfl) rfl) ?_
  refine A_c rfl rfl (OpOK.eqv (A_b rfl) rfl) ?_
  refine A_c rfl rfl (OpOK.eqv (A_Y runUnderlying118 rfl sizeOf29 rfl rfl) rfl) ?_
  refine A_c rfl rfl (OpOK.eqv (A_P ti29 rfl) rfl) ?_
  refine A_c rfl rfl (OpOK.eqv (A_D rfl) rfl) ?_
  refine A_c rfl rfl (OpOK.eqv (A_W (rgRows_ok r.F (pickL r.Points ws) (r.K-1) hF (by omega) (by omega) (by omega)) rfl) rfl) ?_
  refine A_c rfl rfl (OpOK.eqv (ok_allocF (z:=.agg #[.int .i64 0,.slice none 0 0]) [aInt 0,aEx (.slice none 0 0)] zv107 rfl zc107) rfl) ?_
  exact dwl_nil trivial
 refine A_c rfl rfl (OpOK.eqv (A_D rfl) rfl) ?_
 refine A_c rfl rfl (OpOK.eqv (A_b rfl) rfl) ?_
 refine A_c rfl rfl (OpOK.eqv (A_Y runUnderlying118 rfl sizeOf95 rfl rfl) rfl) ?_
 refine A_c rfl rfl (OpOK.eqv (A_P ti95 rfl) rfl) ?_
 refine A_c rfl rfl (OpOK.eqv (A_D rfl) rfl) ?_
 refine A_c rfl rfl (OpOK.eqv (A_b rfl) rfl) ?_
 refine A_c rfl rfl (OpOK.eqv (A_Y runUnderlying118 rfl sizeOf29 rfl rfl) rfl) ?_
 refine A_c rfl rfl (OpOK.eqv (A_P ti29 rfl) rfl) ?_
 refine A_c rfl rfl (OpOK.eqv (A_D rfl) rfl) ?_
 refine A_c rfl rfl (OpOK.eqv (A_W (rgRows_ok r.F (pickL r.Points ws) (r.K-1) hF (by omega) (by omega) (by omega)) rfl) rfl) ?_
 refine A_c rfl rfl (A_D rfl) ?_
 refine dwl_nil ?_
 refine A_t (k:=0) sizeOf107 rfl rfl rfl (AllOne.mem ⟨(A_N _),A_j,trivial⟩) rfl rfl ?_
 show Ent _ ⟨_,[_]⟩ _
 refine enk K4 ?_
 refine A_C fun _ K5=>?_
 refine A_w 13 mixed (by kernel_rfl) (by kernel_rfl) (by kernel_rfl) ?_
 refine dw_o rfl (A_D rfl) ?_
 refine dw_o rfl (A_D rfl) ?_
 refine dw_o rfl (A_D rfl) ?_
 refine dw_o rfl (A_b rfl) ?_
 refine dw_o rfl (A_Y runUnderlying118 rfl sizeOf65 rfl rfl) ?_
 refine dw_o rfl (A_P ti65 rfl) ?_
 refine dw_o rfl (ok_build st107 (As:=[aInt 0,aEx (.slice none 0 0)]) z107 (⟨0,1,rfl,.inl ⟨rfl,_,rfl,(A_N _),rfl,⟨1,1,rfl,.inl ⟨rfl,_,rfl,A_j,rfl,rfl⟩⟩⟩⟩)) ?_
 refine dw_o rfl (A_D rfl) ?_
 refine dw_o rfl (A_R (k:=0) ti107 rfl rfl rfl) ?_
 refine dw_o rfl (ok_callA (slvFlip_ok r (pickL r.Points ws) cs (⟨r.K-1,vdm r.F (pickL r.Points ws) (r.K-1)⟩:Mat)) ⟨A_u rfl (A_x A_h),A_u rfl (cv_agg ⟨A_Z rfl,cv_sl A_h rfl,trivial⟩),trivial⟩) ?_
 refine dw_o rfl (ok_callA (slvMul_ok r (pickL r.Points ws) cs (⟨r.K-1,cs⟩:Mat) (turM r.F ⟨r.K-1,vdm r.F (pickL r.Points ws) (r.K-1)⟩) SF.c) ⟨A_u rfl (A_x A_h),A_u rfl (cv_agg ⟨A_Z rfl,cv_sl A_h rfl,trivial⟩),A_u rfl (cv_eq A_h rfl),trivial⟩) ?_
 refine dw_o rfl (ok_field1 runUnderlying107 rfl isAgg65 rfl rfl) ?_
 refine dw_o rfl (ok_assign rfl) ?_
 refine dw_nil ?_
 refine enk K5 ?_
 refine esr rfl fun _ K6=>?_
 refine ent_callW (rs:=[oBox bb_1 107 [aInt ((⟨(r.K-1),vdm r.F (pickL r.Points ws) (r.K-1)⟩:Mat).cols),aSl 1 false aInts ((⟨(r.K-1),vdm r.F (pickL r.Points ws) (r.K-1)⟩:Mat).rows)]]) [] rfl (square_ok r.K r.K (by omega) (by omega) (by omega) (by omega)) rfl rfl (.inl rfl) ⟨A_u rfl (A_x (A_l _)),A_u rfl (A_x (A_l _)),trivial⟩ ?_
 rintro ⟨r_2,c_2,Hs_2⟩ h46_2
 show Ent _ ⟨_::_,[_,_,_]⟩ _
 have hs1:Hs_2.length=r.K.toNat:=by have hs0:=h46_2;first | exact hs0 | omega
 refine emm rfl ?_
 refine ent_callW (rs:=[oVec r_2 c_2 29 1 false aH Hs_2,oRws 3 aInt [] Hs_2 (mkM r.K r.K (fun _ _=>0)),oBox bb_1 107 [aInt ((⟨(r.K-1),vdm r.F (pickL r.Points ws) (r.K-1)⟩:Mat).cols),aSl 1 false aInts ((⟨(r.K-1),vdm r.F (pickL r.Points ws) (r.K-1)⟩:Mat).rows)]]) [] rfl (square_ok r.K r.K (by omega) (by omega) (by omega) (by omega)) rfl rfl (.inl rfl) ⟨A_u rfl (A_x (A_l _)),A_u rfl (A_x (A_l _)),trivial⟩ ?_
 rintro ⟨r_3,c_3,Hs_3⟩ h49_3
 show Ent _ ⟨_::_,[_,_,_,_,_]⟩ _
 have hs2:Hs_3.length=r.K.toNat:=by have hs0:=h49_3;first | exact hs0 | omega
 refine emm rfl ?_
 refine enk K6 ?_
 refine A_C fun _ K7=>?_
 refine esk rfl ?_
 refine A_K ?_
 refine A_d (fun (i:Int)=>(⟨[(0,aSlv r (pickL r.Points ws) cs),(3,aInt r.K),(4,aInt (r.K-1)),(5,aEx (.pointer (some ⟨bb_1,0,none⟩))),(6,aSl 1 false aInts (stC r (pickL r.Points ws) cs)),(7,aEx (vec r_2 Hs_2.length c_2)),(8,aEx (vec r_3 Hs_3.length c_3)),(50,aInt r.K),(51,aInt i)],[oVec r_3 c_3 29 1 false aH Hs_3,oRws 3 aInt [] Hs_3 (mkM r.K r.K (stX (stQe r (pickL r.Points ws) cs) i 0)),oVec r_2 c_2 29 1 false aH Hs_2,oRws 3 aInt [] Hs_2 (mkM r.K r.K (stX (stPe r (pickL r.Points ws) cs) i 0)),oBox bb_1 107 [aInt ((⟨(r.K-1),vdm r.F (pickL r.Points ws) (r.K-1)⟩:Mat).cols),aSl 1 false aInts ((⟨(r.K-1),vdm r.F (pickL r.Points ws) (r.K-1)⟩:Mat).rows)]]⟩:St)) (fun (i:Int)=>(0<=i)/\(i<=r.K)) (fun (i:Int)=>(r.K-i).toNat) 0 ⟨(by omega),(by omega)⟩ (A_J ⟨rfl,rfl,rfl,rfl,A_V (av_sl (show (mulV r.F (⟨r.K-1,cs⟩:Mat) (turM r.F ⟨r.K-1,vdm r.F (pickL r.Points ws) (r.K-1)⟩)).rows=stC r (pickL r.Points ws) cs by exact SF.ce)),rfl,rfl,rfl,A_V (A_p (show 0=(0:Int) by rfl)),trivial⟩ (A_F (rfl) (A_F (own_rws rfl (show mkM r.K r.K (stX (stQe r (pickL r.Points ws) cs) (0:Int) 0)=mkM r.K r.K (fun _ _=>0) by exact (stX_zero _ _).symm)) (A_F (rfl) (A_F (own_rws rfl (show mkM r.K r.K (stX (stPe r (pickL r.Points ws) cs) (0:Int) 0)=mkM r.K r.K (fun _ _=>0) by exact (stX_zero _ _).symm)) (rfl)))))) ?_
 rintro i ⟨i0,i1⟩
 show Ent _ ⟨_,[_,_,_,_,_]⟩ _
 refine esr rfl fun _ K9=>?_
 refine A_A rfl (A_r rfl rfl) ?_
 refine enk K9 ?_
 refine A_C fun _ K10=>?_
 refine A_G rfl (fun h52=>?_) (fun h52=>?_)
 ·refine esp K10 ?_
  refine A_C fun _ K11=>?_
  refine A_K ?_
  refine esk rfl ?_
  refine A_C fun _ K13=>?_
  refine ent_drawFl 16 [15] mixed (by kernel_rfl) (by kernel_rfl) (by kernel_rfl) (by kernel_rfl) (by kernel_rfl) (fun _ _ _ _ _ h=>h) ?_
  refine dw_o rfl (A_D rfl) ?_
  refine dw_o rfl (A_b rfl) ?_
  refine dw_o rfl (A_Y runUnderlying118 rfl sizeOf95 rfl rfl) ?_
  refine dw_o rfl (A_P ti95 rfl) ?_
  refine dw_o rfl (A_D rfl) ?_
  refine dw_o rfl (A_b rfl) ?_
  refine dw_o rfl (A_Y runUnderlying118 rfl sizeOf29 rfl rfl) ?_
  refine dw_o rfl (A_P ti29 rfl) ?_
  refine dw_o rfl (A_D rfl) ?_
  refine dw_o rfl (A_a 0 sl29 rfl rfl (by omega) (by omega)) ?_
  refine dw_o rfl (A_P ti3 rfl) ?_
  refine dw_o rfl (A_D rfl) ?_
  refine dw_o rfl (A_W (Pow_ok r.F (ix 0 (pickL r.Points ws) i) (r.K-1) ‹_› (by omega) (by omega)) rfl) ?_
  refine dw_o rfl (A_D rfl) ?_
  refine dw_o rfl (A_T rfl rfl) ?_
  refine dw_o rfl (A_T rfl rfl) ?_
  refine dw_nil ?_
  refine emm rfl ?_
  refine enk K13 ?_
  refine esk rfl ?_
  refine A_K ?_
  refine A_d (fun (j:Int)=>(⟨[(0,aSlv r (pickL r.Points ws) cs),(3,aInt r.K),(4,aInt (r.K-1)),(5,aEx (.pointer (some ⟨bb_1,0,none⟩))),(6,aSl 1 false aInts (stC r (pickL r.Points ws) cs)),(7,aEx (vec r_2 Hs_2.length c_2)),(8,aEx (vec r_3 Hs_3.length c_3)),(9,aInt i),(10,aInt (powF r.F (ix 0 (pickL r.Points ws) i) (r.K-1))),(50,aInt r.K),(51,aInt i),(70,aInt r.K),(71,aInt j)],[oVec r_3 c_3 29 1 false aH Hs_3,oRws 3 aInt [] Hs_3 (mkM r.K r.K (stX (stQe r (pickL r.Points ws) cs) i j)),oVec r_2 c_2 29 1 false aH Hs_2,oRws 3 aInt [] Hs_2 (mkM r.K r.K (stX (stPe r (pickL r.Points ws) cs) i j)),oBox bb_1 107 [aInt ((⟨(r.K-1),vdm r.F (pickL r.Points ws) (r.K-1)⟩:Mat).cols),aSl 1 false aInts ((⟨(r.K-1),vdm r.F (pickL r.Points ws) (r.K-1)⟩:Mat).rows)]]⟩:St)) (fun (j:Int)=>(0<=j)/\(j<=r.K)) (fun (j:Int)=>(r.K-j).toNat) 0 ⟨(by omega),(by omega)⟩ (A_J ⟨rfl,rfl,rfl,rfl,rfl,rfl,rfl,rfl,rfl,rfl,rfl,rfl,A_V (A_p (show 0=(0:Int) by rfl)),trivial⟩ (A_F (rfl) (A_F (own_rws rfl (show mkM r.K r.K (stX (stQe r (pickL r.Points ws) cs) i (0:Int))=mkM r.K r.K (stX (stQe r (pickL r.Points ws) cs) i 0) by rfl)) (A_F (rfl) (A_F (own_rws rfl (show mkM r.K r.K (stX (stPe r (pickL r.Points ws) cs) i (0:Int))=mkM r.K r.K (stX (stPe r (pickL r.Points ws) cs) i 0) by rfl)) (rfl)))))) ?_
  rintro j ⟨j0,j1⟩
  show Ent _ ⟨_,[_,_,_,_,_]⟩ _
  refine esr rfl fun _ K15=>?_
  refine A_A rfl (A_r rfl rfl) ?_
  refine enk K15 ?_
  refine A_C fun _ K16=>?_
  refine A_G rfl (fun h72=>?_) (fun h72=>?_)
  ·refine esp K16 ?_
   refine A_C fun _ K17=>?_
   refine A_K ?_
   refine esk rfl ?_
   refine A_C fun _ K19=>?_
   refine ent_drawFl 16 [15] mixed (by kernel_rfl) (by kernel_rfl) (by kernel_rfl) (by kernel_rfl) (by kernel_rfl) (fun _ _ _ _ _ h=>h) ?_
   refine dw_o rfl (A_D rfl) ?_
   refine dw_o rfl (A_b rfl) ?_
   refine dw_o rfl (A_Y runUnderlying118 rfl sizeOf95 rfl rfl) ?_
   refine dw_o rfl (A_P ti95 rfl) ?_
   refine dw_o rfl (A_D rfl) ?_
   refine dw_o rfl (A_b rfl) ?_
   refine dw_o rfl (A_Y runUnderlying118 rfl sizeOf29 rfl rfl) ?_
   refine dw_o rfl (A_P ti29 rfl) ?_
   refine dw_o rfl (A_D rfl) ?_
   refine dw_o rfl (A_a 0 sl29 rfl rfl (by omega) (by omega)) ?_
   refine dw_o rfl (A_P ti3 rfl) ?_
   refine dw_o rfl (A_D rfl) ?_
   refine dw_o rfl (A_W (Pow_ok r.F (ix 0 (pickL r.Points ws) j) (r.K-1) ‹_› (by omega) (by omega)) rfl) ?_
   refine dw_o rfl (A_D rfl) ?_
   refine dw_o rfl (A_T rfl rfl) ?_
   refine dw_o rfl (A_T rfl rfl) ?_
   refine dw_nil ?_
   refine emm rfl ?_
   refine enk K19 ?_
   refine esr rfl fun _ K20=>?_
   refine A_A rfl (ok_neq rfl rfl) ?_
   refine enk K20 ?_
   refine A_G rfl (fun h92=>?_) (fun h92=>?_)
   ·have hMq:=length_mkM r.K r.K (stX (stQe r (pickL r.Points ws) cs) i j)
    have hMp:=length_mkM r.K r.K (stX (stPe r (pickL r.Points ws) cs) i j)
    have hMqi:=ixlen_mkM (R:=r.K) (C:=r.K) (stX (stQe r (pickL r.Points ws) cs) i j) i0 h52
    have hMpi:=ixlen_mkM (R:=r.K) (C:=r.K) (stX (stPe r (pickL r.Points ws) cs) i j) i0 h52
    have hMq1:=length_mkM r.K r.K (stX (stQe r (pickL r.Points ws) cs) i (j+1))
    have hMq1i:=ixlen_mkM (R:=r.K) (C:=r.K) (stX (stQe r (pickL r.Points ws) cs) i (j+1)) i0 h52
    have hc1:=SF.cg i i0 h52
    have hc2:=SF.cg j j0 h72
    have hq1:=stQe_eq (xs:=pickL r.Points ws) (cs:=cs) hka i j
    have hqs:=stX_step (stQe r (pickL r.Points ws) cs) i0 h52 j0 h72 h92 hq1
    have hqr:=stX_read (stQe r (pickL r.Points ws) cs) i0 h52 j0 h72 h92
    have hp1:=stPe_eq (xs:=pickL r.Points ws) (cs:=cs) hka i j
    have hPr:=stX_step (stPe r (pickL r.Points ws) cs) i0 h52 j0 h72 h92 rfl
    refine A_C fun _ K21=>?_
    refine ent_drawFl 39 [38] mixed (by kernel_rfl) (by kernel_rfl) (by kernel_rfl) (by kernel_rfl) (by kernel_rfl) (fun _ _ _ _ _ h=>h) ?_
    refine dw_o rfl (A_D rfl) ?_
    refine dw_o rfl (A_D rfl) ?_
    refine dw_o rfl (ok_indexV0 (k:=0) sl65 rfl rfl rfl rfl (by omega) (by omega)) ?_
    refine dw_o rfl (ok_loadV0 (k:=0) Hdr.no ti29 rfl rfl (by omega) (by omega)) ?_
    refine dw_o rfl (A_D rfl) ?_
    refine dw_o rfl (A_D rfl) ?_
    refine dw_o rfl (A_b rfl) ?_
    refine dw_o rfl (A_Y runUnderlying118 rfl sizeOf95 rfl rfl) ?_
    refine dw_o rfl (A_P ti95 rfl) ?_
    refine dw_o rfl (A_D rfl) ?_
    refine dw_o rfl (A_b rfl) ?_
    refine dw_o rfl (A_Y runUnderlying118 rfl sizeOf95 rfl rfl) ?_
    refine dw_o rfl (A_P ti95 rfl) ?_
    refine dw_o rfl (A_D rfl) ?_
    refine dw_o rfl (A_D rfl) ?_
    refine dw_o rfl (A_a [] sl65 rfl rfl (by omega) (by omega)) ?_
    refine dw_o rfl (A_P ti29 rfl) ?_
    refine dw_o rfl (A_D rfl) ?_
    refine dw_o rfl (A_a 0 sl29 rfl rfl (by omega) (by omega)) ?_
    refine dw_o rfl (A_P ti3 rfl) ?_
    refine dw_o rfl (A_D rfl) ?_
    refine dw_o rfl (A_D rfl) ?_
    refine dw_o rfl (A_a [] sl65 rfl rfl (by omega) (by omega)) ?_
    refine dw_o rfl (A_P ti29 rfl) ?_
    refine dw_o rfl (A_D rfl) ?_
    refine dw_o rfl (A_a 0 sl29 rfl rfl (by omega) (by omega)) ?_
    refine dw_o rfl (A_P ti3 rfl) ?_
    refine dw_o rfl (A_W (Sub_ok r.F (ix 0 (ix [] (stC r (pickL r.Points ws) cs) i) j) (ix 0 (ix [] (stC r (pickL r.Points ws) cs) j) i) ‹_›) rfl) ?_
    refine dw_o rfl (A_D rfl) ?_
    refine dw_o rfl (A_b rfl) ?_
    refine dw_o rfl (A_Y runUnderlying118 rfl sizeOf95 rfl rfl) ?_
    refine dw_o rfl (A_P ti95 rfl) ?_
    refine dw_o rfl (A_D rfl) ?_
    refine dw_o rfl (A_D rfl) ?_
    refine dw_o rfl (A_W (Sub_ok r.F (powF r.F (ix 0 (pickL r.Points ws) i) (r.K-1)) (powF r.F (ix 0 (pickL r.Points ws) j) (r.K-1)) ‹_›) rfl) ?_
    refine dw_o rfl (A_W (Div_ok r.F (addF r.F (ix 0 (ix [] (stC r (pickL r.Points ws) cs) i) j) (negF r.F (ix 0 (ix [] (stC r (pickL r.Points ws) cs) j) i))) (addF r.F (powF r.F (ix 0 (pickL r.Points ws) i) (r.K-1)) (negF r.F (powF r.F (ix 0 (pickL r.Points ws) j) (r.K-1)))) hF (SF.ne i j i0 h52 j0 h72 h92)) rfl) ?_
    refine dw_o rfl (A_D rfl) ?_
    refine dw_o rfl (A_T rfl rfl) ?_
    refine dw_o rfl (A_T rfl rfl) ?_
    refine dw_nil ?_
    refine A_A rfl (ok_indexH (k:=1) sl29 rfl rfl rfl (by omega) (by omega) (by exact List.not_mem_nil) (by omega) (by omega)) ?_
    refine ent_storeH (k:=1) (z:=mulF r.F (addF r.F (ix 0 (ix [] (stC r (pickL r.Points ws) cs) i) j) (negF r.F (ix 0 (ix [] (stC r (pickL r.Points ws) cs) j) i))) (invF r.F (addF r.F (powF r.F (ix 0 (pickL r.Points ws) i) (r.K-1)) (negF r.F (powF r.F (ix 0 (pickL r.Points ws) j) (r.K-1)))))) ti3 rfl rfl rfl (A_z (A_N _)) (by omega) (by omega) (by omega) (by omega) ?_
    refine enk K21 ?_
    rw [hqs]
    refine A_w 31 mixed (by kernel_rfl) (drawQ_F (by kernel_rfl)) (by kernel_rfl) ?_
    refine dw_o rfl (A_D rfl) ?_
    refine dw_o rfl (A_D rfl) ?_
    refine dw_o rfl (ok_indexV0 (k:=2) sl65 rfl rfl rfl rfl (by omega) (by omega)) ?_
    refine dw_o rfl (ok_loadV0 (k:=2) Hdr.no ti29 rfl rfl (by omega) (by omega)) ?_
    refine dw_o rfl (A_D rfl) ?_
    refine dw_o rfl (A_D rfl) ?_
    refine dw_o rfl (A_b rfl) ?_
    refine dw_o rfl (A_Y runUnderlying118 rfl sizeOf95 rfl rfl) ?_
    refine dw_o rfl (A_P ti95 rfl) ?_
    refine dw_o rfl (A_D rfl) ?_
    refine dw_o rfl (A_D rfl) ?_
    refine dw_o rfl (A_a [] sl65 rfl rfl (by omega) (by omega)) ?_
    refine dw_o rfl (A_P ti29 rfl) ?_
    refine dw_o rfl (A_D rfl) ?_
    refine dw_o rfl (A_a 0 sl29 rfl rfl (by omega) (by omega)) ?_
    refine dw_o rfl (A_P ti3 rfl) ?_
    refine dw_o rfl (A_D rfl) ?_
    refine dw_o rfl (A_b rfl) ?_
    refine dw_o rfl (A_Y runUnderlying118 rfl sizeOf95 rfl rfl) ?_
    refine dw_o rfl (A_P ti95 rfl) ?_
    refine dw_o rfl (A_D rfl) ?_
    refine dw_o rfl (A_D rfl) ?_
    refine dw_o rfl (A_D rfl) ?_
    refine dw_o rfl (ok_indexV0 (k:=0) sl65 rfl rfl rfl rfl (by omega) (by omega)) ?_
    refine dw_o rfl (ok_loadV0 (k:=0) Hdr.no ti29 rfl rfl (by omega) (by omega)) ?_
    refine dw_o rfl (A_D rfl) ?_
    refine dw_o rfl (ok_indexH (k:=1) sl29 rfl rfl rfl (by omega) (by omega) (by exact List.not_mem_nil) (by omega) (by omega)) ?_
    refine dw_o rfl (ok_loadH (k:=1) 0 ti3 rfl rfl (by omega) (by omega) (by exact List.not_mem_nil) (by omega) (by omega)) ?_
    refine dw_o rfl (A_W (Mul_ok r.F (powF r.F (ix 0 (pickL r.Points ws) i) (r.K-1)) (ix 0 (ix [] (mkM r.K r.K (stX (stQe r (pickL r.Points ws) cs) i (j+1))) i) j) ‹_›) rfl) ?_
    refine dw_o rfl (A_W (Sub_ok r.F (ix 0 (ix [] (stC r (pickL r.Points ws) cs) i) j) (mulF r.F (powF r.F (ix 0 (pickL r.Points ws) i) (r.K-1)) (ix 0 (ix [] (mkM r.K r.K (stX (stQe r (pickL r.Points ws) cs) i (j+1))) i) j)) ‹_›) rfl) ?_
    refine dw_o rfl (ok_indexH (k:=3) sl29 rfl rfl rfl (by omega) (by omega) (by exact List.not_mem_nil) (by omega) (by omega)) ?_
    refine dw_nil ?_
    refine ent_storeH (k:=3) (z:=addF r.F (ix 0 (ix [] (stC r (pickL r.Points ws) cs) i) j) (negF r.F (mulF r.F (powF r.F (ix 0 (pickL r.Points ws) i) (r.K-1)) (ix 0 (ix [] (mkM r.K r.K (stX (stQe r (pickL r.Points ws) cs) i (j+1))) i) j)))) ti3 rfl rfl rfl (A_z (A_N _)) (by omega) (by omega) (by omega) (by omega) ?_
    refine enk K17 ?_
    refine A_H ?_
    refine A_A rfl (A_n rfl rfl (by omega) (by omega)) ?_
    refine emm rfl ?_
    refine A_O ?_
    refine A_U (s:=(j)) (j+1) ⟨(by omega),‹_›⟩ (by omega) (A_J ⟨rfl,rfl,rfl,rfl,rfl,rfl,rfl,rfl,rfl,rfl,rfl,rfl,rfl,trivial⟩ (A_F (rfl) (A_F (rfl) (A_F (rfl) (A_F (own_rws rfl (show mkM r.K r.K (stX (stPe r (pickL r.Points ws) cs) i (j+1))=List.set (mkM r.K r.K (stX (stPe r (pickL r.Points ws) cs) i j)) (i).toNat (List.set (ix [] (mkM r.K r.K (stX (stPe r (pickL r.Points ws) cs) i j)) i) (j).toNat (addF r.F (ix 0 (ix [] (stC r (pickL r.Points ws) cs) i) j) (negF r.F (mulF r.F (powF r.F (ix 0 (pickL r.Points ws) i) (r.K-1)) (ix 0 (ix [] (mkM r.K r.K (stX (stQe r (pickL r.Points ws) cs) i (j+1))) i) j))))) by rw [hqr,hp1,hPr])) (rfl))))))
   refine esp K17 ?_
   refine A_H ?_
   refine A_A rfl (A_n rfl rfl (by omega) (by omega)) ?_
   refine emm rfl ?_
   refine A_O ?_
   refine A_U (s:=(j)) (j+1) ⟨(by omega),‹_›⟩ (by omega) (A_J ⟨rfl,rfl,rfl,rfl,rfl,rfl,rfl,rfl,rfl,rfl,rfl,rfl,rfl,trivial⟩ (A_F (rfl) (A_F (own_rws rfl (show mkM r.K r.K (stX (stQe r (pickL r.Points ws) cs) i (j+1))=mkM r.K r.K (stX (stQe r (pickL r.Points ws) cs) i j) by exact (stX_same _ _ (by omega)).symm)) (A_F (rfl) (A_F (own_rws rfl (show mkM r.K r.K (stX (stPe r (pickL r.Points ws) cs) i (j+1))=mkM r.K r.K (stX (stPe r (pickL r.Points ws) cs) i j) by exact (stX_same _ _ (by omega)).symm)) (rfl))))))
  refine A_e ?_
  refine A_0 K11 ?_
  refine A_H ?_
  refine A_A rfl (A_n rfl rfl (by omega) (by omega)) ?_
  refine emm rfl ?_
  refine A_O ?_
  refine A_U (s:=(i)) (i+1) ⟨(by omega),‹_›⟩ (by omega) (A_J ⟨rfl,rfl,rfl,rfl,rfl,rfl,rfl,rfl,rfl,trivial⟩ (A_F (rfl) (A_F (own_rws rfl (show mkM r.K r.K (stX (stQe r (pickL r.Points ws) cs) (i+1) 0)=mkM r.K r.K (stX (stQe r (pickL r.Points ws) cs) i j) by rw [show j=r.K by omega];exact (stX_row _ _ _).symm)) (A_F (rfl) (A_F (own_rws rfl (show mkM r.K r.K (stX (stPe r (pickL r.Points ws) cs) (i+1) 0)=mkM r.K r.K (stX (stPe r (pickL r.Points ws) cs) i j) by rw [show j=r.K by omega];exact (stX_row _ _ _).symm)) (rfl))))))
 have hpl:=SF.pl
 have hql:=SF.ql
 have hm1:=SF.m1
 have hm2:=SF.m2
 have hPa:mkM r.K r.K (stX (stPe r (pickL r.Points ws) cs) i 0)=stP r (pickL r.Points ws) cs:=by rw [show i=r.K by omega];exact stX_all _ _
 have hQa:mkM r.K r.K (stX (stQe r (pickL r.Points ws) cs) i 0)=stQ r (pickL r.Points ws) cs:=by rw [show i=r.K by omega];exact stX_all _ _
 refine A_e ?_
 refine A_0 K7 ?_
 refine A_C fun _ K22=>?_
 rw [hPa,hQa]
 refine ent_frzRows 2 3 rfl rfl (by decide) ?_
 refine ent_give 2 7 rfl (cv_vec (k:=2) (off_erase rfl) (by omega) rfl) ?_
 refine ent_frzRows 0 1 rfl rfl (by decide) ?_
 refine ent_give 0 8 rfl (cv_vec (k:=0) (off_erase rfl) (by omega) rfl) ?_
 refine ent_drawW2 (φ:=fun (y:Option Nat×Nat)=>match y with | (ro,co)=>True) (val:=fun (y:Option Nat×Nat)=>match y with | (ro,co)=>vec ro ((midV r.F (r.K-1) (pickL r.Points ws) (stP r (pickL r.Points ws) cs)).length) co) (Ws:=fun (y:Option Nat×Nat)=>match y with | (ro,co)=>[oVec ro co 29 1 false aInts (midV r.F (r.K-1) (pickL r.Points ws) (stP r (pickL r.Points ws) cs))]) 8 [] 3 169 [(166,aSlv r (pickL r.Points ws) cs),(167,aAgg [aInt ((⟨(r.K-1),vdm r.F (pickL r.Points ws) (r.K-1)⟩:Mat).cols),aSl 1 false aInts ((⟨(r.K-1),vdm r.F (pickL r.Points ws) (r.K-1)⟩:Mat).rows)]),(168,aSl 1 false aInts (stP r (pickL r.Points ws) cs)),(169,aNew w.heap.size (fun (y:Option Nat×Nat)=>match y with | (ro,co)=>True) (fun (y:Option Nat×Nat)=>match y with | (ro,co)=>aEx (vec ro ((midV r.F (r.K-1) (pickL r.Points ws) (stP r (pickL r.Points ws) cs)).length) co)) (fun (y:Option Nat×Nat)=>match y with | (ro,co)=>[oVec ro co 29 1 false aInts (midV r.F (r.K-1) (pickL r.Points ws) (stP r (pickL r.Points ws) cs))])),(170,aSlv r (pickL r.Points ws) cs),(171,aAgg [aInt ((⟨(r.K-1),vdm r.F (pickL r.Points ws) (r.K-1)⟩:Mat).cols),aSl 1 false aInts ((⟨(r.K-1),vdm r.F (pickL r.Points ws) (r.K-1)⟩:Mat).rows)]),(172,aSl 1 false aInts (stQ r (pickL r.Points ws) cs)),(173,aSl 1 false aInts (midV r.F (r.K-1) (pickL r.Points ws) (stQ r (pickL r.Points ws) cs)))] mixed (by kernel_rfl) (by kernel_rfl) (by kernel_rfl) (by kernel_rfl) (by kernel_rfl) (fun _ _ _ _ _ h=>h) rfl (by kernel_rfl) (by kernel_rfl) (fun _=>by kernel_rfl) (fun _=>by kernel_rfl) (fun _=>by kernel_rfl) (middleW_ok r (pickL r.Points ws) cs (r.K-1) (stP r (pickL r.Points ws) cs) hF N.xr N.xn SF.l1 SF.k1 SF.k2 SF.k.2.2 SF.pl SF.pg) (by kernel_rfl) ⟨A_u rfl (A_x A_h),A_u rfl (cv_agg ⟨A_Z rfl,cv_sl A_h rfl,trivial⟩),A_u rfl (A_x A_h),trivial⟩ ?_ ?_
 ·refine A_c rfl rfl (OpOK.eqv (A_D rfl) rfl) ?_
  refine A_c rfl rfl (OpOK.eqv (A_R (k:=0) ti107 rfl rfl rfl) rfl) ?_
  refine A_c rfl rfl (OpOK.eqv (A_D rfl) rfl) ?_
  refine A_c rfl rfl (OpOK.eqv (ok_callW0 (middleW_ok r (pickL r.Points ws) cs (r.K-1) (stP r (pickL r.Points ws) cs) hF N.xr N.xn SF.l1 SF.k1 SF.k2 SF.k.2.2 SF.pl SF.pg) ⟨A_u rfl (A_x A_h),A_u rfl (cv_agg ⟨A_Z rfl,cv_sl A_h rfl,trivial⟩),A_u rfl (A_x A_h),trivial⟩) rfl) ?_
  refine A_c rfl rfl (OpOK.eqv (A_D rfl) rfl) ?_
  refine A_c rfl rfl (OpOK.eqv (A_R (k:=0) ti107 rfl rfl rfl) rfl) ?_
  refine A_c rfl rfl (OpOK.eqv (A_D rfl) rfl) ?_
  refine A_c rfl rfl (OpOK.eqv (ok_callA (CtrF.ctr (CtrF.sl (middle_ok r (pickL r.Points ws) cs (r.K-1) (stQ r (pickL r.Points ws) cs) hF N.xr N.xn SF.l1 SF.k1 SF.k2 SF.k.2.2 SF.ql SF.qg))) ⟨A_u rfl (A_x A_h),A_u rfl (cv_agg ⟨A_Z rfl,cv_sl A_h rfl,trivial⟩),A_u rfl (A_x A_h),trivial⟩) rfl) ?_
  exact dwl_nil trivial
 rintro ⟨ro_4,co_4⟩ -
 show DWL _ _ [oVec ro_4 co_4 29 1 false aInts (midV r.F (r.K-1) (pickL r.Points ws) (stP r (pickL r.Points ws) cs)),oBox bb_1 107 [aInt ((⟨(r.K-1),vdm r.F (pickL r.Points ws) (r.K-1)⟩:Mat).cols),aSl 1 false aInts ((⟨(r.K-1),vdm r.F (pickL r.Points ws) (r.K-1)⟩:Mat).rows)]] _ [(166,aSlv r (pickL r.Points ws) cs),(167,aAgg [aInt ((⟨(r.K-1),vdm r.F (pickL r.Points ws) (r.K-1)⟩:Mat).cols),aSl 1 false aInts ((⟨(r.K-1),vdm r.F (pickL r.Points ws) (r.K-1)⟩:Mat).rows)]),(168,aSl 1 false aInts (stP r (pickL r.Points ws) cs)),(169,aEx (vec ro_4 ((midV r.F (r.K-1) (pickL r.Points ws) (stP r (pickL r.Points ws) cs)).length) co_4)),(170,aSlv r (pickL r.Points ws) cs),(171,aAgg [aInt ((⟨(r.K-1),vdm r.F (pickL r.Points ws) (r.K-1)⟩:Mat).cols),aSl 1 false aInts ((⟨(r.K-1),vdm r.F (pickL r.Points ws) (r.K-1)⟩:Mat).rows)]),(172,aSl 1 false aInts (stQ r (pickL r.Points ws) cs)),(173,aSl 1 false aInts (midV r.F (r.K-1) (pickL r.Points ws) (stQ r (pickL r.Points ws) cs)))] _ _
 refine A_c rfl rfl (OpOK.eqv (A_D rfl) rfl) ?_
 refine A_c rfl rfl (OpOK.eqv (A_R (k:=1) ti107 rfl rfl rfl) rfl) ?_
 refine A_c rfl rfl (OpOK.eqv (A_D rfl) rfl) ?_
 refine A_c rfl rfl (A_D rfl) ?_
 refine A_c rfl rfl (OpOK.eqv (A_D rfl) rfl) ?_
 refine A_c rfl rfl (OpOK.eqv (A_R (k:=1) ti107 rfl rfl rfl) rfl) ?_
 refine A_c rfl rfl (OpOK.eqv (A_D rfl) rfl) ?_
 refine A_c rfl rfl (OpOK.eqv (ok_callA (CtrF.ctr (CtrF.sl (middle_ok r (pickL r.Points ws) cs (r.K-1) (stQ r (pickL r.Points ws) cs) hF N.xr N.xn SF.l1 SF.k1 SF.k2 SF.k.2.2 SF.ql SF.qg))) ⟨A_u rfl (A_x A_h),A_u rfl (cv_agg ⟨A_Z rfl,cv_sl A_h rfl,trivial⟩),A_u rfl (A_x A_h),trivial⟩) rfl) ?_
 refine dwl_nil ?_
 refine ent_appendS (k:=0) rfl vt65 rfl rfl rfl rfl (A_x A_h) (by omega) (by omega) (fun r174_4 cr174_4=>?_)
 refine emm rfl ?_
 refine enk K22 ?_
 refine A_Q ?_
 exact retR1 (.inr rfl) results79 (A_L (A_S rfl (cv_vec (k:=0) (off_x rfl) rfl (by unfold Cw.stM;rw [hka]))))
end Go.Proofs.Ytaipghchkamajaa

