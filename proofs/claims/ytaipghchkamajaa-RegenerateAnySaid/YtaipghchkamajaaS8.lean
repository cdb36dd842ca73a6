/-
  Walks of functions of the program and the reference.
-/
import Derived.Test.YtaipghchkamajaaS7
open Go Go.Cw
namespace Go.Proofs.Ytaipghchkamajaa
open Try
set_option maxRecDepth 100000
set_option linter.unusedVariables false
set_option linter.unusedSimpArgs false
theorem slvMulE_ok (r:Rgn) (xs:List Int) (cs:List (List Int)) (a b m:Mat) (hE:mulE r.F a b=0) (he:mulV r.F a b=m):Ctr Try.prog 109 [aSlv r xs cs,aMat a,aMat b] (aMat m):=he ▸ slvMul_ok r xs cs a b hE
set_option maxHeartbeats 1000000 in
theorem bandwidth_ok (r:Rgn) (ws:List Int) (cs:List (List Int)) (Q:RecF r ws cs) (hk:r.Kind=0):Ctr Try.prog 78 [aSlv r (pickL r.Points ws) cs] (aSl 1 false aInts (bwM r (bwS r (pickL r.Points ws) cs).rows (bwT r (pickL r.Points ws) cs).rows)):=by
 have BF:=bw_facts Q hk
 have N:=Q.N
 have R:=Q.R
 have hF:=R.fld
 have hkk:=BF.k
 have hxl:=BF.l
 have hcl:=Q.cl
 have hpv:=BF.hpv
 have hsl:=BF.sl
 have htl:=BF.tl
 have lvd:=length_vdm r.F (pickL r.Points ws) r.D
 refine ctr_of Try.call78 func78 rfl rfl ?_
 intro w O
 refine A_q 0 2 rfl rfl (fun hlen0_2=>?_)
 refine A_q 0 6 rfl rfl (fun hlen0_6=>?_)
 refine A_q 0 8 rfl rfl (fun hlen0_8=>?_)
 refine A_q 0 9 rfl rfl (fun hlen0_9=>?_)
 refine esk rfl ?_
 refine A_C fun _ K2=>?_
 refine A_w 12 mixed (by kernel_rfl) (by kernel_rfl) (by kernel_rfl) ?_
 refine dw_o rfl (A_D rfl) ?_
 refine dw_o rfl (A_b rfl) ?_
 refine dw_o rfl (A_k runUnderlying118 rfl sizeOf53 (by decide) (Nat.le_of_ble_eq_true rfl) rfl) ?_
 refine dw_o rfl (A_Y runUnderlying53 rfl sizeOf3 rfl rfl) ?_
 refine dw_o rfl (A_P ti3 rfl) ?_
 refine dw_o rfl (A_D rfl) ?_
 refine dw_o rfl (A_b rfl) ?_
 refine dw_o rfl (A_k runUnderlying118 rfl sizeOf53 (by decide) (Nat.le_of_ble_eq_true rfl) rfl) ?_
 refine dw_o rfl (A_Y runUnderlying53 rfl sizeOf3 rfl rfl) ?_
 refine dw_o rfl (A_P ti3 rfl) ?_
 refine dw_o rfl (ok_assign rfl) ?_
 refine dw_o rfl (ok_assign rfl) ?_
 refine dw_nil ?_
 refine enk K2 ?_
 refine A_C fun _ K3=>?_
 refine ent_drawB2 (T:=107) (z:=.agg #[.int .i64 0,.slice none 0 0]) (As:=[aInt 0,aEx (.slice none 0 0)]) 11 [] 10 5 [(27,aSlv r (pickL r.Points ws) cs),(28,aSlv r (pickL r.Points ws) cs),(29,aAt 1 false (aGF r.F)),(30,aGF r.F),(31,aSlv r (pickL r.Points ws) cs),(32,aSlv r (pickL r.Points ws) cs),(33,aAt 1 false (aSl 1 false aInt (pickL r.Points ws))),(34,aSl 1 false aInt (pickL r.Points ws)),(35,aInt r.D),(36,aMat (⟨r.D,vdm r.F (pickL r.Points ws) r.D⟩:Mat)),(5,aBoxF w.heap.size 107 [aInt 0,aEx (.slice none 0 0)])] mixed (by kernel_rfl) (by kernel_rfl) (by kernel_rfl) (by kernel_rfl) (by kernel_rfl) (fun _ _ _ _ _ h=>h) rfl (by kernel_rfl) (by kernel_rfl) (fun _=>by kernel_rfl) (fun _=>by kernel_rfl) (fun _=>by kernel_rfl) zv107 rfl zc107 (by kernel_rfl) ?_ (fun bb_1=>?_)
 ·refine A_c rfl rfl (OpOK.eqv (A_D rfl) rfl) ?_
  refine A_c rfl rfl (OpOK.eqv (A_b rfl) rfl) ?_
  refine A_c rfl rfl (OpOK.eqv (A_Y runUnderlying118 rfl sizeOf95 rfl rfl) rfl) ?_
  refine A_c rfl rfl (OpOK.eqv (A_P ti95 rfl) rfl) ?_
  refine A_c rfl rfl (OpOK.eqv (A_D rfl) rfl) ?_
  refine A_c rfl rfl (OpOK.eqv (A_b rfl) rfl) ?_
  refine A_c rfl rfl (OpOK.eqv (A_Y runUnderlying118 rfl sizeOf29 rfl rfl) rfl) ?_
  refine A_c rfl rfl (OpOK.eqv (A_P ti29 rfl) rfl) ?_
  refine A_c rfl rfl (OpOK.eqv (A_D rfl) rfl) ?_
  refine A_c rfl rfl (OpOK.eqv (A_W (rgRows_ok r.F (pickL r.Points ws) r.D hF (by omega) (by omega) (by omega)) rfl) rfl) ?_
  refine A_c rfl rfl (OpOK.eqv (ok_allocF (z:=.agg #[.int .i64 0,.slice none 0 0]) [aInt 0,aEx (.slice none 0 0)] zv107 rfl zc107) rfl) ?_
  exact dwl_nil trivial
 refine A_c rfl rfl (OpOK.eqv (A_D rfl) rfl) ?_
 refine A_c rfl rfl (OpOK.eqv (A_b rfl) rfl) ?_
 refine A_c rfl rfl (OpOK.eqv (A_Y runUnderlying118 rfl sizeOf95 rfl rfl) rfl) ?_
 refine A_c rfl rfl (OpOK.eqv (A_P ti95 rfl) rfl) ?_
 refine A_c rfl rfl (OpOK.eqv (A_D rfl) rfl) ?_
 refine A_c rfl rfl (OpOK.eqv (A_b rfl) rfl) ?_
 refine A_c rfl rfl (OpOK.eqv (A_Y runUnderlying118 rfl sizeOf29 rfl rfl) rfl) ?_
 refine A_c rfl rfl (OpOK.eqv (A_P ti29 rfl) rfl) ?_
 refine A_c rfl rfl (OpOK.eqv (A_D rfl) rfl) ?_
 refine A_c rfl rfl (OpOK.eqv (A_W (rgRows_ok r.F (pickL r.Points ws) r.D hF (by omega) (by omega) (by omega)) rfl) rfl) ?_
 refine A_c rfl rfl (A_D rfl) ?_
 refine dwl_nil ?_
 refine A_t (k:=0) sizeOf107 rfl rfl rfl (AllOne.mem ⟨(A_N _),A_j,trivial⟩) rfl rfl ?_
 show Ent _ ⟨_,[_]⟩ _
 refine enk K3 ?_
 refine esr rfl fun _ K4=>?_
 refine A_A rfl (A_B runUnderlying107 rfl sizeOf65 (by decide) rfl) ?_
 refine A_A rfl (A_I (k:=0) isAgg65 rfl rfl rfl) ?_
 refine emm rfl ?_
 refine A_A rfl (ok_callA (part_ok (vdm r.F (pickL r.Points ws) r.D) 0 r.K (by omega) (by omega) (by omega) (fun i i0 i1=>by have:=BF.vl i i0 (by omega);omega) (by omega)) ⟨A_u rfl (cv_sl A_h rfl),A_u rfl (A_x A_h),A_u rfl (A_x A_h),trivial⟩) ?_
 refine A_A rfl (ok_callA (slvInv_ok r (pickL r.Points ws) cs (⟨r.K,vdm r.F (pickL r.Points ws) r.K⟩:Mat)) ⟨A_u rfl (A_x A_h),A_u rfl (cv_eq A_h (by simp_all)),trivial⟩) ?_
 refine ent_alloc (z:=.agg #[.int .i64 0,.slice none 0 0]) [aInt 0,aEx (.slice none 0 0)] rfl zv107 rfl zc107 (fun b6_2=>?_)
 refine A_t (k:=0) sizeOf107 rfl rfl rfl (AllOne.mem ⟨(A_N _),A_j,trivial⟩) rfl rfl ?_
 show Ent _ ⟨_,[_,_]⟩ _
 refine enk K4 ?_
 refine A_C fun _ K5=>?_
 refine ent_drawB2 (T:=107) (z:=.agg #[.int .i64 0,.slice none 0 0]) (As:=[aInt 0,aEx (.slice none 0 0)]) 11 [] 10 7 [(43,aSlv r (pickL r.Points ws) cs),(44,aAgg [aInt ((invM r.F (⟨r.K,vdm r.F (pickL r.Points ws) r.K⟩:Mat)).cols),aSl 1 false aInts ((invM r.F (⟨r.K,vdm r.F (pickL r.Points ws) r.K⟩:Mat)).rows)]),(45,aSlv r (pickL r.Points ws) cs),(46,aSlv r (pickL r.Points ws) cs),(47,aAt 1 false (aSl 1 false aInts cs)),(48,aSl 1 false aInts cs),(49,aInt r.K),(50,aInt r.D),(51,aMat (⟨r.D-r.K,prtL cs r.K r.D⟩:Mat)),(52,aMat (bwT r (pickL r.Points ws) cs)),(7,aBoxF w.heap.size 107 [aInt 0,aEx (.slice none 0 0)])] mixed (by kernel_rfl) (by kernel_rfl) (by kernel_rfl) (by kernel_rfl) (by kernel_rfl) (fun _ _ _ _ _ h=>h) rfl (by kernel_rfl) (by kernel_rfl) (fun _=>by kernel_rfl) (fun _=>by kernel_rfl) (fun _=>by kernel_rfl) zv107 rfl zc107 (by kernel_rfl) ?_ (fun bb_3=>?_)
 ·refine A_c rfl rfl (OpOK.eqv (A_D rfl) rfl) ?_
  refine A_c rfl rfl (OpOK.eqv (A_R (k:=0) ti107 rfl rfl rfl) rfl) ?_
  refine A_c rfl rfl (OpOK.eqv (A_D rfl) rfl) ?_
  refine A_c rfl rfl (OpOK.eqv (A_b rfl) rfl) ?_
  refine A_c rfl rfl (OpOK.eqv (A_Y runUnderlying118 rfl sizeOf65 rfl rfl) rfl) ?_
  refine A_c rfl rfl (OpOK.eqv (A_P ti65 rfl) rfl) ?_
  refine A_c rfl rfl (OpOK.eqv (A_D rfl) rfl) ?_
  refine A_c rfl rfl (OpOK.eqv (A_D rfl) rfl) ?_
  refine A_c rfl rfl (OpOK.eqv (A_W (part_ok cs r.K r.D (by omega) (by omega) (by omega) (fun i i0 i1=>by have:=BF.cl i i0 (by omega);omega) (by omega)) rfl) rfl) ?_
  refine A_c rfl rfl (OpOK.eqv (ok_callA (slvMulE_ok r (pickL r.Points ws) cs (bwI r (pickL r.Points ws)) (⟨r.D-r.K,prtL cs r.K r.D⟩:Mat) (bwT r (pickL r.Points ws) cs) BF.e1 rfl) ⟨A_u rfl (A_x A_h),A_u rfl (cv_agg ⟨A_Z rfl,cv_sl A_h rfl,trivial⟩),A_u rfl (A_x A_h),trivial⟩) rfl) ?_
  refine A_c rfl rfl (OpOK.eqv (ok_allocF (z:=.agg #[.int .i64 0,.slice none 0 0]) [aInt 0,aEx (.slice none 0 0)] zv107 rfl zc107) rfl) ?_
  exact dwl_nil trivial
 refine A_c rfl rfl (OpOK.eqv (A_D rfl) rfl) ?_
 refine A_c rfl rfl (OpOK.eqv (A_R (k:=1) ti107 rfl rfl rfl) rfl) ?_
 refine A_c rfl rfl (OpOK.eqv (A_D rfl) rfl) ?_
 refine A_c rfl rfl (OpOK.eqv (A_b rfl) rfl) ?_
 refine A_c rfl rfl (OpOK.eqv (A_Y runUnderlying118 rfl sizeOf65 rfl rfl) rfl) ?_
 refine A_c rfl rfl (OpOK.eqv (A_P ti65 rfl) rfl) ?_
 refine A_c rfl rfl (OpOK.eqv (A_D rfl) rfl) ?_
 refine A_c rfl rfl (OpOK.eqv (A_D rfl) rfl) ?_
 refine A_c rfl rfl (OpOK.eqv (A_W (part_ok cs r.K r.D (by omega) (by omega) (by omega) (fun i i0 i1=>by have:=BF.cl i i0 (by omega);omega) (by omega)) rfl) rfl) ?_
 refine A_c rfl rfl (OpOK.eqv (ok_callA (slvMulE_ok r (pickL r.Points ws) cs (bwI r (pickL r.Points ws)) (⟨r.D-r.K,prtL cs r.K r.D⟩:Mat) (bwT r (pickL r.Points ws) cs) BF.e1 rfl) ⟨A_u rfl (A_x A_h),A_u rfl (cv_agg ⟨A_Z rfl,cv_sl A_h rfl,trivial⟩),A_u rfl (A_x A_h),trivial⟩) rfl) ?_
 refine A_c rfl rfl (A_D rfl) ?_
 refine dwl_nil ?_
 refine A_t (k:=0) sizeOf107 rfl rfl rfl (AllOne.mem ⟨(A_N _),A_j,trivial⟩) rfl rfl ?_
 show Ent _ ⟨_,[_,_,_]⟩ _
 refine enk K5 ?_
 refine esr rfl fun _ K6=>?_
 refine ent_callW (rs:=[oBox bb_3 107 [aInt ((bwT r (pickL r.Points ws) cs).cols),aSl 1 false aInts ((bwT r (pickL r.Points ws) cs).rows)],oBox b6_2 107 [aInt ((invM r.F (⟨r.K,vdm r.F (pickL r.Points ws) r.K⟩:Mat)).cols),aSl 1 false aInts ((invM r.F (⟨r.K,vdm r.F (pickL r.Points ws) r.K⟩:Mat)).rows)],oBox bb_1 107 [aInt ((⟨r.D,vdm r.F (pickL r.Points ws) r.D⟩:Mat).cols),aSl 1 false aInts ((⟨r.D,vdm r.F (pickL r.Points ws) r.D⟩:Mat).rows)]]) [] rfl (square_ok r.D r.D (by omega) (by omega) (by omega) (by omega)) rfl rfl (.inl rfl) ⟨A_u rfl (A_x (A_l _)),A_u rfl (A_x (A_l _)),trivial⟩ ?_
 rintro ⟨r_4,c_4,Hs_4⟩ h55_4
 show Ent _ ⟨_::_,[_,_,_,_,_]⟩ _
 have hs1:Hs_4.length=r.D.toNat:=by have hs0:=h55_4;first | exact hs0 | omega
 refine emm rfl ?_
 refine enk K6 ?_
 refine esr rfl fun _ K7=>?_
 refine A_A rfl (A_b rfl) ?_
 refine A_A rfl (A_Y runUnderlying118 rfl sizeOf65 rfl rfl) ?_
 refine A_A rfl (A_P ti65 rfl) ?_
 refine emm rfl ?_
 refine A_A rfl (A_W (part_ok cs 0 r.K (by omega) (by omega) (by omega) (fun i i0 i1=>by have:=BF.cl i i0 (by omega);omega) (by omega)) rfl) ?_
 refine ent_alloc (z:=.agg #[.int .i64 0,.slice none 0 0]) [aInt 0,aEx (.slice none 0 0)] rfl zv107 rfl zc107 (fun b9_5=>?_)
 refine A_t (k:=0) sizeOf107 rfl rfl rfl (AllOne.mem ⟨(A_N _),A_j,trivial⟩) rfl rfl ?_
 show Ent _ ⟨_,[_,_,_,_,_,_]⟩ _
 refine enk K7 ?_
 refine A_C fun _ K8=>?_
 refine esr rfl fun _ K9=>?_
 refine A_A rfl (ok_gtr rfl rfl) ?_
 refine enk K9 ?_
 refine A_G rfl (fun h64=>?_) (fun h64=>?_)
 ·have hC1:=BF.c1 (by omega)
  have lC:(bwC r (pickL r.Points ws) cs).length=r.K.toNat:=by rw [hC1,length_mkM]
  have hpl:=BF.pl (by omega)
  have hCc:(bwC r (pickL r.Points ws) cs).take r.K.toNat=(bwC r (pickL r.Points ws) cs):=List.take_of_length_le (by omega)
  refine A_C fun _ K10=>?_
  refine ent_drawB2 (T:=107) (z:=.agg #[.int .i64 0,.slice none 0 0]) (As:=[aInt 0,aEx (.slice none 0 0)]) 11 [] 10 10 [(65,aSlv r (pickL r.Points ws) cs),(66,aEx (.pointer (some ⟨bb_1,1,none⟩))),(67,aSl 1 false aInts ((⟨r.D,vdm r.F (pickL r.Points ws) r.D⟩:Mat).rows)),(68,aInt r.K),(69,aInt r.D),(70,aMat (⟨r.D-r.K,prtL (vdm r.F (pickL r.Points ws) r.D) r.K r.D⟩:Mat)),(71,aSlv r (pickL r.Points ws) cs),(72,aAgg [aInt ((bwT r (pickL r.Points ws) cs).cols),aSl 1 false aInts ((bwT r (pickL r.Points ws) cs).rows)]),(73,aMat (turM r.F (bwT r (pickL r.Points ws) cs))),(74,aMat (bwP r (pickL r.Points ws) cs)),(10,aBoxF w.heap.size 107 [aInt 0,aEx (.slice none 0 0)])] mixed (by kernel_rfl) (by kernel_rfl) (by kernel_rfl) (by kernel_rfl) (by kernel_rfl) (fun _ _ _ _ _ h=>h) rfl (by kernel_rfl) (by kernel_rfl) (fun _=>by kernel_rfl) (fun _=>by kernel_rfl) (fun _=>by kernel_rfl) zv107 rfl zc107 (by kernel_rfl) ?_ (fun bb_6=>?_)
  ·refine A_c rfl rfl (OpOK.eqv (A_D rfl) rfl) ?_
   refine A_c rfl rfl (OpOK.eqv (A_B runUnderlying107 rfl sizeOf65 (by decide) rfl) rfl) ?_
   refine A_c rfl rfl (OpOK.eqv (A_I (k:=5) isAgg65 rfl rfl rfl) rfl) ?_
   refine A_c rfl rfl (OpOK.eqv (A_D rfl) rfl) ?_
   refine A_c rfl rfl (OpOK.eqv (A_D rfl) rfl) ?_
   refine A_c rfl rfl (OpOK.eqv (ok_callA (part_ok (vdm r.F (pickL r.Points ws) r.D) r.K r.D (by omega) (by omega) (by omega) (fun i i0 i1=>by have:=BF.vl i i0 (by omega);omega) (by omega)) ⟨A_u rfl (cv_sl A_h rfl),A_u rfl (A_x A_h),A_u rfl (A_x A_h),trivial⟩) rfl) ?_
   refine A_c rfl rfl (OpOK.eqv (A_D rfl) rfl) ?_
   refine A_c rfl rfl (OpOK.eqv (A_R (k:=3) ti107 rfl rfl rfl) rfl) ?_
   refine A_c rfl rfl (OpOK.eqv (A_W (slvFlip_ok r (pickL r.Points ws) cs (bwT r (pickL r.Points ws) cs)) rfl) rfl) ?_
   refine A_c rfl rfl (OpOK.eqv (A_W (slvMulE_ok r (pickL r.Points ws) cs (⟨r.D-r.K,prtL (vdm r.F (pickL r.Points ws) r.D) r.K r.D⟩:Mat) (turM r.F (bwT r (pickL r.Points ws) cs)) (bwP r (pickL r.Points ws) cs) (BF.e2 (by omega)) rfl) rfl) rfl) ?_
   refine A_c rfl rfl (OpOK.eqv (ok_allocF (z:=.agg #[.int .i64 0,.slice none 0 0]) [aInt 0,aEx (.slice none 0 0)] zv107 rfl zc107) rfl) ?_
   exact dwl_nil trivial
  refine A_c rfl rfl (OpOK.eqv (A_D rfl) rfl) ?_
  refine A_c rfl rfl (OpOK.eqv (A_B runUnderlying107 rfl sizeOf65 (by decide) rfl) rfl) ?_
  refine A_c rfl rfl (OpOK.eqv (A_I (k:=6) isAgg65 rfl rfl rfl) rfl) ?_
  refine A_c rfl rfl (OpOK.eqv (A_D rfl) rfl) ?_
  refine A_c rfl rfl (OpOK.eqv (A_D rfl) rfl) ?_
  refine A_c rfl rfl (OpOK.eqv (ok_callA (part_ok (vdm r.F (pickL r.Points ws) r.D) r.K r.D (by omega) (by omega) (by omega) (fun i i0 i1=>by have:=BF.vl i i0 (by omega);omega) (by omega)) ⟨A_u rfl (cv_sl A_h rfl),A_u rfl (A_x A_h),A_u rfl (A_x A_h),trivial⟩) rfl) ?_
  refine A_c rfl rfl (OpOK.eqv (A_D rfl) rfl) ?_
  refine A_c rfl rfl (OpOK.eqv (A_R (k:=4) ti107 rfl rfl rfl) rfl) ?_
  refine A_c rfl rfl (OpOK.eqv (A_W (slvFlip_ok r (pickL r.Points ws) cs (bwT r (pickL r.Points ws) cs)) rfl) rfl) ?_
  refine A_c rfl rfl (OpOK.eqv (A_W (slvMulE_ok r (pickL r.Points ws) cs (⟨r.D-r.K,prtL (vdm r.F (pickL r.Points ws) r.D) r.K r.D⟩:Mat) (turM r.F (bwT r (pickL r.Points ws) cs)) (bwP r (pickL r.Points ws) cs) (BF.e2 (by omega)) rfl) rfl) rfl) ?_
  refine A_c rfl rfl (A_D rfl) ?_
  refine dwl_nil ?_
  refine A_t (k:=0) sizeOf107 rfl rfl rfl (AllOne.mem ⟨(A_N _),A_j,trivial⟩) rfl rfl ?_
  show Ent _ ⟨_,[_,_,_,_,_,_,_]⟩ _
  refine enk K10 ?_
  refine esr rfl fun _ K11=>?_
  refine A_A rfl (ok_build st107 (As:=[aInt 0,aEx (.slice none 0 0)]) z107 (⟨0,1,rfl,.inl ⟨rfl,_,rfl,(A_N _),rfl,rfl⟩⟩)) ?_
  refine A_t (k:=1) sizeOf107 rfl rfl rfl (AllOne.mem ⟨(A_N _),(one_ex rfl),trivial⟩) rfl rfl ?_
  show Ent _ ⟨_,[_,_,_,_,_,_,_]⟩ _
  refine enk K11 ?_
  refine esr rfl fun _ K12=>?_
  refine A_A rfl (A_b rfl) ?_
  refine A_A rfl (A_Y runUnderlying118 rfl sizeOf65 rfl rfl) ?_
  refine A_A rfl (A_P ti65 rfl) ?_
  refine A_A rfl (ok_len rfl runUnderlying65 rfl) ?_
  refine emm rfl ?_
  refine enk K12 ?_
  refine A_K ?_
  refine ent_open 29 1 false aInts (fun _=>rfl) ?_
  refine A_d (fun (ss:Int×Option Nat×Nat)=>match ss with | (i,rr8,cc8)=>(⟨[(0,aSlv r (pickL r.Points ws) cs),(3,aInt r.K),(4,aInt r.D),(6,aEx (.pointer (some ⟨b6_2,0,none⟩))),(7,aEx (.pointer (some ⟨bb_3,0,none⟩))),(8,aEx (vec r_4 Hs_4.length c_4)),(9,aEx (.pointer (some ⟨b9_5,0,none⟩))),(10,aEx (.pointer (some ⟨bb_6,0,none⟩))),(80,aSl 1 false aInts cs),(81,aInt (↑cs.length:Int)),(82,aInt i)],[oVec rr8 cc8 29 1 false aInts ((bwC r (pickL r.Points ws) cs).take i.toNat),oBox bb_6 107 [aInt ((bwP r (pickL r.Points ws) cs).cols),aSl 1 false aInts ((bwP r (pickL r.Points ws) cs).rows)],oBox b9_5 107 [aInt r.K,aEx (vec rr8 (((bwC r (pickL r.Points ws) cs).take i.toNat).length) cc8)],oVec r_4 c_4 29 1 false aH Hs_4,oRws 3 aInt [] Hs_4 (mkM r.D r.D (fun _ _=>0)),oBox bb_3 107 [aInt ((bwT r (pickL r.Points ws) cs).cols),aSl 1 false aInts ((bwT r (pickL r.Points ws) cs).rows)],oBox b6_2 107 [aInt ((invM r.F (⟨r.K,vdm r.F (pickL r.Points ws) r.K⟩:Mat)).cols),aSl 1 false aInts ((invM r.F (⟨r.K,vdm r.F (pickL r.Points ws) r.K⟩:Mat)).rows)],oBox bb_1 107 [aInt ((⟨r.D,vdm r.F (pickL r.Points ws) r.D⟩:Mat).cols),aSl 1 false aInts ((⟨r.D,vdm r.F (pickL r.Points ws) r.D⟩:Mat).rows)]]⟩:St)) (fun (ss:Int×Option Nat×Nat)=>match ss with | (i,rr8,cc8)=>(0<=i)/\(i<=r.K)) (fun (ss:Int×Option Nat×Nat)=>match ss with | (i,rr8,cc8)=>(r.K-i).toNat) (0,none,0) ⟨(by omega),(by omega)⟩ (A_J ⟨rfl,rfl,rfl,rfl,rfl,rfl,rfl,rfl,rfl,rfl,A_V (A_p (show 0=(0:Int) by rfl)),trivial⟩ (A_F (A_s (show (bwC r (pickL r.Points ws) cs).take (0:Int).toNat = [] by rfl)) (A_F (rfl) (A_F (own_box (av_cons rfl (av_cons (rfl) (rfl)))) (rfl))))) ?_
  rintro ⟨i,rr8,cc8⟩ ⟨i0,i1⟩
  show Ent _ ⟨_,[_,_,_,_,_,_,_,_]⟩ _
  have ltc:((bwC r (pickL r.Points ws) cs).take i.toNat).length=i.toNat:=by rw [List.length_take];omega
  refine esr rfl fun _ K13=>?_
  refine A_A rfl (A_r rfl rfl) ?_
  refine enk K13 ?_
  refine A_C fun _ K14=>?_
  refine A_G rfl (fun h83=>?_) (fun h83=>?_)
  ·have hci:=BF.cl i i0 (by omega)
   have hpi:=BF.pr (by omega) i i0 (by omega)
   refine esp K14 ?_
   refine A_C fun _ K15=>?_
   refine A_K ?_
   refine esr rfl fun _ K16=>?_
   refine A_A rfl (A_a [] sl65 rfl rfl (by omega) (by omega)) ?_
   refine A_A rfl (A_P ti29 rfl) ?_
   refine emm rfl ?_
   refine enk K16 ?_
   refine esk rfl ?_
   refine A_C fun _ K18=>?_
   refine esk rfl ?_
   refine A_K ?_
   refine ent_open 3 1 false aInt (fun _=>rfl) ?_
   refine A_d (fun (ss:Int×Option Nat×Nat)=>match ss with | (j,rr10,cc10)=>(⟨[(0,aSlv r (pickL r.Points ws) cs),(3,aInt r.K),(4,aInt r.D),(6,aEx (.pointer (some ⟨b6_2,0,none⟩))),(7,aEx (.pointer (some ⟨bb_3,0,none⟩))),(8,aEx (vec r_4 Hs_4.length c_4)),(9,aEx (.pointer (some ⟨b9_5,0,none⟩))),(10,aEx (.pointer (some ⟨bb_6,0,none⟩))),(11,aInt i),(12,aSl 1 false aInt (ix [] cs i)),(13,aEx (vec rr10 ((mapR (fun u=>addF r.F (ix 0 (ix [] cs i) u) (negF r.F (ix 0 (ix [] (bwP r (pickL r.Points ws) cs).rows i) u))) j).length) cc10)),(80,aSl 1 false aInts cs),(81,aInt (↑cs.length:Int)),(82,aInt i),(87,aInt r.K),(88,aInt j)],[oVec rr10 cc10 3 1 false aInt (mapR (fun u=>addF r.F (ix 0 (ix [] cs i) u) (negF r.F (ix 0 (ix [] (bwP r (pickL r.Points ws) cs).rows i) u))) j),oVec rr8 cc8 29 1 false aInts ((bwC r (pickL r.Points ws) cs).take i.toNat),oBox bb_6 107 [aInt ((bwP r (pickL r.Points ws) cs).cols),aSl 1 false aInts ((bwP r (pickL r.Points ws) cs).rows)],oBox b9_5 107 [aInt r.K,aEx (vec rr8 (((bwC r (pickL r.Points ws) cs).take i.toNat).length) cc8)],oVec r_4 c_4 29 1 false aH Hs_4,oRws 3 aInt [] Hs_4 (mkM r.D r.D (fun _ _=>0)),oBox bb_3 107 [aInt ((bwT r (pickL r.Points ws) cs).cols),aSl 1 false aInts ((bwT r (pickL r.Points ws) cs).rows)],oBox b6_2 107 [aInt ((invM r.F (⟨r.K,vdm r.F (pickL r.Points ws) r.K⟩:Mat)).cols),aSl 1 false aInts ((invM r.F (⟨r.K,vdm r.F (pickL r.Points ws) r.K⟩:Mat)).rows)],oBox bb_1 107 [aInt ((⟨r.D,vdm r.F (pickL r.Points ws) r.D⟩:Mat).cols),aSl 1 false aInts ((⟨r.D,vdm r.F (pickL r.Points ws) r.D⟩:Mat).rows)]]⟩:St)) (fun (ss:Int×Option Nat×Nat)=>match ss with | (j,rr10,cc10)=>(0<=j)/\(j<=r.K)) (fun (ss:Int×Option Nat×Nat)=>match ss with | (j,rr10,cc10)=>(r.K-j).toNat) (0,none,0) ⟨(by omega),(by omega)⟩ (A_J ⟨rfl,rfl,rfl,rfl,rfl,rfl,rfl,rfl,rfl,rfl,A_V ((show aEx (vec none ([]:List _).length 0)=aEx (vec none ((mapR (fun u=>addF r.F (ix 0 (ix [] cs i) u) (negF r.F (ix 0 (ix [] (bwP r (pickL r.Points ws) cs).rows i) u))) (0:Int)).length) 0) from av_vec (congrArg List.length (show mapR (fun u=>addF r.F (ix 0 (ix [] cs i) u) (negF r.F (ix 0 (ix [] (bwP r (pickL r.Points ws) cs).rows i) u))) (0:Int) = [] by rfl).symm))),rfl,rfl,rfl,rfl,A_V (A_p (show 0=(0:Int) by rfl)),trivial⟩ (A_F (A_s (show mapR (fun u=>addF r.F (ix 0 (ix [] cs i) u) (negF r.F (ix 0 (ix [] (bwP r (pickL r.Points ws) cs).rows i) u))) (0:Int) = [] by rfl)) (rfl))) ?_
   rintro ⟨j,rr10,cc10⟩ ⟨j0,j1⟩
   show Ent _ ⟨_,[_,_,_,_,_,_,_,_,_]⟩ _
   have lmj:=A_v (fun u=>addF r.F (ix 0 (ix [] cs i) u) (negF r.F (ix 0 (ix [] (bwP r (pickL r.Points ws) cs).rows i) u))) j
   refine esr rfl fun _ K20=>?_
   refine A_A rfl (A_r rfl rfl) ?_
   refine enk K20 ?_
   refine A_C fun _ K21=>?_
   refine A_G rfl (fun h89=>?_) (fun h89=>?_)
   ·refine esp K21 ?_
    refine A_C fun _ K22=>?_
    refine A_K ?_
    refine esk rfl ?_
    refine A_w 19 mixed (by kernel_rfl) (by kernel_rfl) (by kernel_rfl) ?_
    refine dw_o rfl (A_D rfl) ?_
    refine dw_o rfl (A_D rfl) ?_
    refine dw_o rfl (A_b rfl) ?_
    refine dw_o rfl (A_Y runUnderlying118 rfl sizeOf95 rfl rfl) ?_
    refine dw_o rfl (A_P ti95 rfl) ?_
    refine dw_o rfl (A_D rfl) ?_
    refine dw_o rfl (A_D rfl) ?_
    refine dw_o rfl (A_a 0 sl29 rfl rfl (by omega) (by omega)) ?_
    refine dw_o rfl (A_P ti3 rfl) ?_
    refine dw_o rfl (A_B runUnderlying107 rfl sizeOf65 (by decide) rfl) ?_
    refine dw_o rfl (A_I (k:=2) isAgg65 rfl rfl rfl) ?_
    refine dw_o rfl (A_D rfl) ?_
    refine dw_o rfl (A_a [] sl65 rfl rfl (by omega) (by omega)) ?_
    refine dw_o rfl (A_P ti29 rfl) ?_
    refine dw_o rfl (A_D rfl) ?_
    refine dw_o rfl (A_a 0 sl29 rfl rfl (by omega) (by omega)) ?_
    refine dw_o rfl (A_P ti3 rfl) ?_
    refine dw_o rfl (A_W (Sub_ok r.F (ix 0 (ix [] cs i) j) (ix 0 (ix [] ((bwP r (pickL r.Points ws) cs).rows) i) j) ‹_›) rfl) ?_
    refine dw_o rfl (ok_build1 (enc:=aInt) (y:=addF r.F (ix 0 (ix [] cs i) j) (negF r.F (ix 0 (ix [] ((bwP r (pickL r.Points ws) cs).rows) i) j))) vt29 rfl (A_z (A_N _)) (by decide)) ?_
    refine dw_nil ?_
    refine ent_appendS (k:=0) rfl vt29 rfl rfl rfl rfl (A_x A_h) (by simp only [List.length_append,List.length_cons,List.length_nil];omega) (by simp only [List.length_append,List.length_cons,List.length_nil];omega) (fun r110_10 cr110_10=>?_)
    refine emm rfl ?_
    refine enk K22 ?_
    refine A_H ?_
    refine A_A rfl (A_n rfl rfl (by omega) (by omega)) ?_
    refine emm rfl ?_
    refine A_O ?_
    refine A_U (s:=(j,rr10,cc10)) (j+1,r110_10,cr110_10) ⟨(by omega),‹_›⟩ (by dsimp only;omega) (A_J ⟨rfl,rfl,rfl,rfl,rfl,rfl,rfl,rfl,rfl,rfl,A_V (av_vec (congrArg List.length (show mapR (fun u=>addF r.F (ix 0 (ix [] cs i) u) (negF r.F (ix 0 (ix [] (bwP r (pickL r.Points ws) cs).rows i) u))) (j+1)=(mapR (fun u=>addF r.F (ix 0 (ix [] cs i) u) (negF r.F (ix 0 (ix [] (bwP r (pickL r.Points ws) cs).rows i) u))) j)++[addF r.F (ix 0 (ix [] cs i) j) (negF r.F (ix 0 (ix [] ((bwP r (pickL r.Points ws) cs).rows) i) j))] by exact mapR_succ _ j0).symm)),rfl,rfl,rfl,rfl,rfl,trivial⟩ (A_F (A_s (show mapR (fun u=>addF r.F (ix 0 (ix [] cs i) u) (negF r.F (ix 0 (ix [] (bwP r (pickL r.Points ws) cs).rows i) u))) (j+1)=(mapR (fun u=>addF r.F (ix 0 (ix [] cs i) u) (negF r.F (ix 0 (ix [] (bwP r (pickL r.Points ws) cs).rows i) u))) j)++[addF r.F (ix 0 (ix [] cs i) j) (negF r.F (ix 0 (ix [] ((bwP r (pickL r.Points ws) cs).rows) i) j))] by exact mapR_succ _ j0)) (rfl)))
   refine A_e ?_
   refine A_0 K18 ?_
   refine A_H ?_
   refine A_A rfl (A_B runUnderlying107 rfl sizeOf65 (by decide) rfl) ?_
   refine A_A rfl (A_I (k:=3) isAgg65 rfl rfl rfl) ?_
   refine emm rfl ?_
   refine ent_give 0 114 rfl (cv_vec (k:=0) (off_erase rfl) rfl rfl) ?_
   refine ent_appendL (k:=0) (enc:=aInts) (y:=mapR (fun u=>addF r.F (ix 0 (ix [] cs i) u) (negF r.F (ix 0 (ix [] (bwP r (pickL r.Points ws) cs).rows i) u))) j) rfl rfl vt65 rfl rfl rfl rfl ((A_z A_j)) (by omega) (by omega) (by decide) (fun b116_12 c116_12=>?_)
   refine A_A rfl (A_B runUnderlying107 rfl sizeOf65 (by decide) rfl) ?_
   refine ent_storeB (k:=2) sizeOf65 rfl rfl rfl (one_ex rfl) rfl ?_
   refine enk K15 ?_
   refine A_H ?_
   refine A_A rfl (A_n rfl rfl (by omega) (by omega)) ?_
   refine emm rfl ?_
   refine A_O ?_
   refine A_U (s:=(i,rr8,cc8)) (i+1,(some b116_12),c116_12) ⟨(by omega),(by omega)⟩ (by dsimp only;omega) (A_J ⟨rfl,rfl,rfl,rfl,rfl,rfl,rfl,rfl,rfl,rfl,rfl,trivial⟩ (A_F (A_s (show (bwC r (pickL r.Points ws) cs).take (i+1).toNat=((bwC r (pickL r.Points ws) cs).take i.toNat)++[mapR (fun u=>addF r.F (ix 0 (ix [] cs i) u) (negF r.F (ix 0 (ix [] (bwP r (pickL r.Points ws) cs).rows i) u))) j] by rw [take_succ_ix [] (bwC r (pickL r.Points ws) cs) i0 (by omega),hC1,ix_mkM _ i0 (by omega),show j=r.K by omega])) (A_F (rfl) (A_F (own_box (av_cons rfl (av_cons (av_vec (congrArg List.length (show (bwC r (pickL r.Points ws) cs).take (i+1).toNat=((bwC r (pickL r.Points ws) cs).take i.toNat)++[mapR (fun u=>addF r.F (ix 0 (ix [] cs i) u) (negF r.F (ix 0 (ix [] (bwP r (pickL r.Points ws) cs).rows i) u))) j] by rw [take_succ_ix [] (bwC r (pickL r.Points ws) cs) i0 (by omega),hC1,ix_mkM _ i0 (by omega),show j=r.K by omega]))) (rfl)))) (rfl)))))
  have hCi:(bwC r (pickL r.Points ws) cs).take i.toNat=(bwC r (pickL r.Points ws) cs):=by rw [show i=r.K by omega];exact hCc
  rw [hCi]
  refine A_e ?_
  refine A_0 K8 ?_
  refine A_C fun _ K24=>?_
  refine A_C fun _ K25=>?_
  refine ent_giveC 2 0 1 rfl rfl rfl (by decide) rfl ?_
  refine A_H ?_
  refine emm rfl ?_
  refine A_A rfl (A_R (k:=5) ti107 rfl rfl rfl) ?_
  refine A_A rfl (A_R (k:=1) ti107 rfl rfl rfl) ?_
  refine A_A rfl (ok_callA (slvMulE_ok r (pickL r.Points ws) cs (bwI r (pickL r.Points ws)) (⟨r.K,(bwC r (pickL r.Points ws) cs)⟩:Mat) (bwS r (pickL r.Points ws) cs) BF.e3 rfl) ⟨A_u rfl (A_x A_h),A_u rfl (cv_agg ⟨A_Z rfl,cv_sl A_h rfl,trivial⟩),A_u rfl (cv_agg ⟨A_Z rfl,cv_sl A_h rfl,trivial⟩),trivial⟩) ?_
  refine A_A rfl (ok_field1 runUnderlying107 rfl isAgg65 rfl rfl) ?_
  refine A_A rfl (ok_len rfl runUnderlying65 rfl) ?_
  refine emm rfl ?_
  refine enk K25 ?_
  refine A_K ?_
  refine A_d (fun (i:Int)=>(⟨[(3,aInt r.K),(4,aInt r.D),(7,aEx (.pointer (some ⟨bb_3,0,none⟩))),(8,aEx (vec r_4 Hs_4.length c_4)),(123,aSl 1 false aInts ((bwS r (pickL r.Points ws) cs).rows)),(124,aInt (↑((bwS r (pickL r.Points ws) cs).rows).length:Int)),(125,aInt i)],[oBox bb_6 107 [aInt ((bwP r (pickL r.Points ws) cs).cols),aSl 1 false aInts ((bwP r (pickL r.Points ws) cs).rows)],oBox b9_5 107 [aInt r.K,aSl 1 false aInts (bwC r (pickL r.Points ws) cs)],oVec r_4 c_4 29 1 false aH Hs_4,oRws 3 aInt [] Hs_4 (bwX r (bwS r (pickL r.Points ws) cs).rows (bwT r (pickL r.Points ws) cs).rows i),oBox bb_3 107 [aInt ((bwT r (pickL r.Points ws) cs).cols),aSl 1 false aInts ((bwT r (pickL r.Points ws) cs).rows)],oBox b6_2 107 [aInt ((invM r.F (⟨r.K,vdm r.F (pickL r.Points ws) r.K⟩:Mat)).cols),aSl 1 false aInts ((invM r.F (⟨r.K,vdm r.F (pickL r.Points ws) r.K⟩:Mat)).rows)],oBox bb_1 107 [aInt ((⟨r.D,vdm r.F (pickL r.Points ws) r.D⟩:Mat).cols),aSl 1 false aInts ((⟨r.D,vdm r.F (pickL r.Points ws) r.D⟩:Mat).rows)]]⟩:St)) (fun (i:Int)=>(0<=i)/\(i<=r.K)) (fun (i:Int)=>(r.K-i).toNat) 0 ⟨(by omega),(by omega)⟩ (A_J ⟨rfl,rfl,rfl,rfl,rfl,rfl,A_V (A_p (show 0=(0:Int) by rfl)),trivial⟩ (A_F (rfl) (A_F (rfl) (A_F (rfl) (A_F (own_rws rfl (show bwX r (bwS r (pickL r.Points ws) cs).rows (bwT r (pickL r.Points ws) cs).rows (0:Int)=mkM r.D r.D (fun _ _=>0) by exact mixG_zero _ _)) (rfl)))))) ?_
  rintro i ⟨i0,i1⟩
  show Ent _ ⟨_,[_,_,_,_,_,_,_]⟩ _
  have lbx:=length_bwX (r:=r) (S:=(bwS r (pickL r.Points ws) cs).rows) (T:=(bwT r (pickL r.Points ws) cs).rows) i0 (show i<=r.D by omega)
  refine esr rfl fun _ K26=>?_
  refine A_A rfl (A_r rfl rfl) ?_
  refine enk K26 ?_
  refine A_C fun _ K27=>?_
  refine A_G rfl (fun h126=>?_) (fun h126=>?_)
  ·have hs1:((ix [] (bwS r (pickL r.Points ws) cs).rows i).length:Int)=r.K:=BF.sr i i0 (by omega)
   have ht1:((ix [] (bwT r (pickL r.Points ws) cs).rows i).length:Int)=r.D-r.K:=BF.tr i i0 (by omega)
   have hb0:(ix [] (bwX r (bwS r (pickL r.Points ws) cs).rows (bwT r (pickL r.Points ws) cs).rows i) i).length=r.D.toNat:=by rw [ix_bwX i0 (by omega),List.length_replicate]
   refine esp K27 ?_
   refine A_C fun _ K28=>?_
   refine A_K ?_
   refine esr rfl fun _ K29=>?_
   refine A_A rfl (A_a [] sl65 rfl rfl (by omega) (by omega)) ?_
   refine A_A rfl (A_P ti29 rfl) ?_
   refine emm rfl ?_
   refine enk K29 ?_
   refine esr rfl fun _ K30=>?_
   refine A_A rfl (ok_indexV0 (k:=2) sl65 rfl rfl rfl rfl (by omega) (by omega)) ?_
   refine A_A rfl (ok_loadV0 (k:=2) Hdr.no ti29 rfl rfl (by omega) (by omega)) ?_
   refine emm rfl ?_
   refine ent_takeRow 3 i rfl (by omega) (by omega) (by exact List.not_mem_nil) (fun hn135=>?_)
   refine ent_copyS (k:=0) (l:=0) (n:=(ix Hdr.no Hs_4 i).n) (cap:=(ix Hdr.no Hs_4 i).cap) (r:=(ix Hdr.no Hs_4 i).r) vt29 rfl rfl (by rw [subO_zero];rfl) rfl hn135 (by omega) (by omega) ?_
   refine ent_backRow 4 0 i [] rfl rfl (by decide) (by simp) (by omega) (by omega) (by rw [hn135];simp only [List.length_append,List.length_take,List.length_drop];omega) ?_
   refine enk K30 ?_
   refine esr rfl fun _ K31=>?_
   refine A_A rfl (ok_gtr rfl rfl) ?_
   refine enk K31 ?_
   refine A_G rfl (fun h138=>?_) (fun h138=>?_)
   ·refine A_w 11 mixed (by kernel_rfl) (by kernel_rfl) (by kernel_rfl) ?_
    refine dw_o rfl (A_D rfl) ?_
    refine dw_o rfl (A_D rfl) ?_
    refine dw_o rfl (ok_indexV0 (k:=2) sl65 rfl rfl rfl rfl (by omega) (by omega)) ?_
    refine dw_o rfl (ok_loadV0 (k:=2) Hdr.no ti29 rfl rfl (by omega) (by omega)) ?_
    refine dw_o rfl (A_D rfl) ?_
    refine dw_o rfl (ok_subFromH (k:=3) sl29 rfl rfl (by omega) (by simp only [List.length_set];omega) (by exact List.not_mem_nil) rfl (by omega) (by rw [bwX_len1 i0 (by omega)];simp only [List.length_append,List.length_take,List.length_drop];omega) (by rw [bwX_len1 i0 (by omega)];simp only [List.length_append,List.length_take,List.length_drop];omega)) ?_
    refine dw_o rfl (A_B runUnderlying107 rfl sizeOf65 (by decide) rfl) ?_
    refine dw_o rfl (A_I (k:=4) isAgg65 rfl rfl rfl) ?_
    refine dw_o rfl (A_D rfl) ?_
    refine dw_o rfl (A_a [] sl65 rfl rfl (by omega) (by omega)) ?_
    refine dw_o rfl (A_P ti29 rfl) ?_
    refine dw_nil ?_
    refine ent_takeRow 3 i rfl (by omega) (by simp only [List.length_set];omega) (by exact List.not_mem_nil) (fun hn150=>?_)
    refine ent_copyS (k:=0) (l:=(r.K).toNat) (n:=(ix Hdr.no Hs_4 i).n) (cap:=(ix Hdr.no Hs_4 i).cap) (r:=(ix Hdr.no Hs_4 i).r) vt29 rfl rfl rfl rfl hn150 (by omega) (by omega) ?_
    refine ent_backRow 4 0 i [] rfl rfl (by decide) (by simp) (by omega) (by omega) (by rw [hn150];simp only [List.length_append,List.length_take,List.length_drop];omega) ?_
    refine enk K28 ?_
    refine A_H ?_
    refine A_A rfl (A_n rfl rfl (by omega) (by omega)) ?_
    refine emm rfl ?_
    refine A_O ?_
    refine A_U (s:=(i)) (i+1) ⟨(by omega),(by omega)⟩ (by omega) (A_J ⟨rfl,rfl,rfl,rfl,rfl,rfl,rfl,trivial⟩ (A_F (rfl) (A_F (rfl) (A_F (rfl) (A_F (own_rws rfl (show bwX r (bwS r (pickL r.Points ws) cs).rows (bwT r (pickL r.Points ws) cs).rows (i+1)=List.set (List.set (bwX r (bwS r (pickL r.Points ws) cs).rows (bwT r (pickL r.Points ws) cs).rows i) (i).toNat ((List.take 0 (ix [] (bwX r (bwS r (pickL r.Points ws) cs).rows (bwT r (pickL r.Points ws) cs).rows i) i)++(ix [] ((bwS r (pickL r.Points ws) cs).rows) i))++List.drop (0+(ix [] ((bwS r (pickL r.Points ws) cs).rows) i).length) (ix [] (bwX r (bwS r (pickL r.Points ws) cs).rows (bwT r (pickL r.Points ws) cs).rows i) i))) (i).toNat ((List.take (r.K).toNat (ix [] (List.set (bwX r (bwS r (pickL r.Points ws) cs).rows (bwT r (pickL r.Points ws) cs).rows i) (i).toNat ((List.take 0 (ix [] (bwX r (bwS r (pickL r.Points ws) cs).rows (bwT r (pickL r.Points ws) cs).rows i) i)++(ix [] ((bwS r (pickL r.Points ws) cs).rows) i))++List.drop (0+(ix [] ((bwS r (pickL r.Points ws) cs).rows) i).length) (ix [] (bwX r (bwS r (pickL r.Points ws) cs).rows (bwT r (pickL r.Points ws) cs).rows i) i))) i)++(ix [] ((bwT r (pickL r.Points ws) cs).rows) i))++List.drop ((r.K).toNat+(ix [] ((bwT r (pickL r.Points ws) cs).rows) i).length) (ix [] (List.set (bwX r (bwS r (pickL r.Points ws) cs).rows (bwT r (pickL r.Points ws) cs).rows i) (i).toNat ((List.take 0 (ix [] (bwX r (bwS r (pickL r.Points ws) cs).rows (bwT r (pickL r.Points ws) cs).rows i) i)++(ix [] ((bwS r (pickL r.Points ws) cs).rows) i))++List.drop (0+(ix [] ((bwS r (pickL r.Points ws) cs).rows) i).length) (ix [] (bwX r (bwS r (pickL r.Points ws) cs).rows (bwT r (pickL r.Points ws) cs).rows i) i))) i)) by exact (bwX_two i0 (by omega) (by omega) hs1 ht1 rfl rfl).symm)) (rfl))))))
   refine esp K28 ?_
   refine A_H ?_
   refine A_A rfl (A_n rfl rfl (by omega) (by omega)) ?_
   refine emm rfl ?_
   refine A_O ?_
   refine A_U (s:=(i)) (i+1) ⟨(by omega),(by omega)⟩ (by omega) (A_J ⟨rfl,rfl,rfl,rfl,rfl,rfl,rfl,trivial⟩ (A_F (rfl) (A_F (rfl) (A_F (rfl) (A_F (own_rws rfl (show bwX r (bwS r (pickL r.Points ws) cs).rows (bwT r (pickL r.Points ws) cs).rows (i+1)=List.set (bwX r (bwS r (pickL r.Points ws) cs).rows (bwT r (pickL r.Points ws) cs).rows i) (i).toNat ((List.take 0 (ix [] (bwX r (bwS r (pickL r.Points ws) cs).rows (bwT r (pickL r.Points ws) cs).rows i) i)++(ix [] ((bwS r (pickL r.Points ws) cs).rows) i))++List.drop (0+(ix [] ((bwS r (pickL r.Points ws) cs).rows) i).length) (ix [] (bwX r (bwS r (pickL r.Points ws) cs).rows (bwT r (pickL r.Points ws) cs).rows i) i)) by exact (bwX_one i0 (by omega) (by omega) hs1 ht1).symm)) (rfl))))))
  refine A_e ?_
  refine A_0 K24 ?_
  refine esk rfl ?_
  refine A_Q ?_
  refine ent_frzRows 2 3 rfl rfl (by decide) ?_
  exact retR1 (.inr rfl) results78 (A_L (A_S rfl (cv_vec (k:=2) (off_x rfl) (by simp_all) (by rw [show i=r.K by omega];exact bwX_all _ _ (by omega) (by omega)))))
 have hC0:=BF.c0 (by omega)
 refine esp K8 ?_
 refine A_C fun _ K33=>?_
 refine esr rfl fun _ K34=>?_
 refine A_A rfl (A_R (k:=4) ti107 rfl rfl rfl) ?_
 refine A_A rfl (A_R (k:=0) ti107 rfl rfl rfl) ?_
 refine A_A rfl (ok_callA (slvMulE_ok r (pickL r.Points ws) cs (bwI r (pickL r.Points ws)) (⟨r.K,(bwC r (pickL r.Points ws) cs)⟩:Mat) (bwS r (pickL r.Points ws) cs) BF.e3 rfl) ⟨A_u rfl (A_x A_h),A_u rfl (cv_agg ⟨A_Z rfl,cv_sl A_h rfl,trivial⟩),A_u rfl (cv_agg ⟨A_Z (by simp_all),cv_sl A_h (by simp_all),trivial⟩),trivial⟩) ?_
 refine A_A rfl (ok_field1 runUnderlying107 rfl isAgg65 rfl rfl) ?_
 refine A_A rfl (ok_len rfl runUnderlying65 rfl) ?_
 refine emm rfl ?_
 refine enk K34 ?_
 refine A_K ?_
 refine A_d (fun (i:Int)=>(⟨[(3,aInt r.K),(4,aInt r.D),(7,aEx (.pointer (some ⟨bb_3,0,none⟩))),(8,aEx (vec r_4 Hs_4.length c_4)),(123,aSl 1 false aInts ((bwS r (pickL r.Points ws) cs).rows)),(124,aInt (↑((bwS r (pickL r.Points ws) cs).rows).length:Int)),(125,aInt i)],[oBox b9_5 107 [aInt ((⟨r.K-0,prtL cs 0 r.K⟩:Mat).cols),aSl 1 false aInts ((⟨r.K-0,prtL cs 0 r.K⟩:Mat).rows)],oVec r_4 c_4 29 1 false aH Hs_4,oRws 3 aInt [] Hs_4 (bwX r (bwS r (pickL r.Points ws) cs).rows (bwT r (pickL r.Points ws) cs).rows i),oBox bb_3 107 [aInt ((bwT r (pickL r.Points ws) cs).cols),aSl 1 false aInts ((bwT r (pickL r.Points ws) cs).rows)],oBox b6_2 107 [aInt ((invM r.F (⟨r.K,vdm r.F (pickL r.Points ws) r.K⟩:Mat)).cols),aSl 1 false aInts ((invM r.F (⟨r.K,vdm r.F (pickL r.Points ws) r.K⟩:Mat)).rows)],oBox bb_1 107 [aInt ((⟨r.D,vdm r.F (pickL r.Points ws) r.D⟩:Mat).cols),aSl 1 false aInts ((⟨r.D,vdm r.F (pickL r.Points ws) r.D⟩:Mat).rows)]]⟩:St)) (fun (i:Int)=>(0<=i)/\(i<=r.K)) (fun (i:Int)=>(r.K-i).toNat) 0 ⟨(by omega),(by omega)⟩ (A_J ⟨rfl,rfl,rfl,rfl,rfl,rfl,A_V (A_p (show 0=(0:Int) by rfl)),trivial⟩ (A_F (rfl) (A_F (rfl) (A_F (own_rws rfl (show bwX r (bwS r (pickL r.Points ws) cs).rows (bwT r (pickL r.Points ws) cs).rows (0:Int)=mkM r.D r.D (fun _ _=>0) by exact mixG_zero _ _)) (rfl))))) ?_
 rintro i ⟨i0,i1⟩
 show Ent _ ⟨_,[_,_,_,_,_,_]⟩ _
 have lbx:=length_bwX (r:=r) (S:=(bwS r (pickL r.Points ws) cs).rows) (T:=(bwT r (pickL r.Points ws) cs).rows) i0 (show i<=r.D by omega)
 refine esr rfl fun _ K35=>?_
 refine A_A rfl (A_r rfl rfl) ?_
 refine enk K35 ?_
 refine A_C fun _ K36=>?_
 refine A_G rfl (fun h126=>?_) (fun h126=>?_)
 ·have hs1:((ix [] (bwS r (pickL r.Points ws) cs).rows i).length:Int)=r.K:=BF.sr i i0 (by omega)
  have ht1:((ix [] (bwT r (pickL r.Points ws) cs).rows i).length:Int)=r.D-r.K:=BF.tr i i0 (by omega)
  have hb0:(ix [] (bwX r (bwS r (pickL r.Points ws) cs).rows (bwT r (pickL r.Points ws) cs).rows i) i).length=r.D.toNat:=by rw [ix_bwX i0 (by omega),List.length_replicate]
  refine esp K36 ?_
  refine A_C fun _ K37=>?_
  refine A_K ?_
  refine esr rfl fun _ K38=>?_
  refine A_A rfl (A_a [] sl65 rfl rfl (by omega) (by omega)) ?_
  refine A_A rfl (A_P ti29 rfl) ?_
  refine emm rfl ?_
  refine enk K38 ?_
  refine esr rfl fun _ K39=>?_
  refine A_A rfl (ok_indexV0 (k:=1) sl65 rfl rfl rfl rfl (by omega) (by omega)) ?_
  refine A_A rfl (ok_loadV0 (k:=1) Hdr.no ti29 rfl rfl (by omega) (by omega)) ?_
  refine emm rfl ?_
  refine ent_takeRow 2 i rfl (by omega) (by omega) (by exact List.not_mem_nil) (fun hn135=>?_)
  refine ent_copyS (k:=0) (l:=0) (n:=(ix Hdr.no Hs_4 i).n) (cap:=(ix Hdr.no Hs_4 i).cap) (r:=(ix Hdr.no Hs_4 i).r) vt29 rfl rfl (by rw [subO_zero];rfl) rfl hn135 (by omega) (by omega) ?_
  refine ent_backRow 3 0 i [] rfl rfl (by decide) (by simp) (by omega) (by omega) (by rw [hn135];simp only [List.length_append,List.length_take,List.length_drop];omega) ?_
  refine enk K39 ?_
  refine esr rfl fun _ K40=>?_
  refine A_A rfl (ok_gtr rfl rfl) ?_
  refine enk K40 ?_
  refine A_G rfl (fun h138=>?_) (fun h138=>?_)
  ·refine A_w 11 mixed (by kernel_rfl) (by kernel_rfl) (by kernel_rfl) ?_
   refine dw_o rfl (A_D rfl) ?_
   refine dw_o rfl (A_D rfl) ?_
   refine dw_o rfl (ok_indexV0 (k:=1) sl65 rfl rfl rfl rfl (by omega) (by omega)) ?_
   refine dw_o rfl (ok_loadV0 (k:=1) Hdr.no ti29 rfl rfl (by omega) (by omega)) ?_
   refine dw_o rfl (A_D rfl) ?_
   refine dw_o rfl (ok_subFromH (k:=2) sl29 rfl rfl (by omega) (by omega) (by exact List.not_mem_nil) rfl (by omega) (by omega) (by omega)) ?_
   refine dw_o rfl (A_B runUnderlying107 rfl sizeOf65 (by decide) rfl) ?_
   refine dw_o rfl (A_I (k:=3) isAgg65 rfl rfl rfl) ?_
   refine dw_o rfl (A_D rfl) ?_
   refine dw_o rfl (A_a [] sl65 rfl rfl (by omega) (by omega)) ?_
   refine dw_o rfl (A_P ti29 rfl) ?_
   refine dw_nil ?_
   refine ent_takeRow 2 i rfl (by omega) (by omega) (by exact List.not_mem_nil) (fun hn150=>?_)
   refine ent_copyS (k:=0) (l:=(r.K).toNat) (n:=(ix Hdr.no Hs_4 i).n) (cap:=(ix Hdr.no Hs_4 i).cap) (r:=(ix Hdr.no Hs_4 i).r) vt29 rfl rfl rfl rfl hn150 (by omega) (by omega) ?_
   refine ent_backRow 3 0 i [] rfl rfl (by decide) (by simp) (by omega) (by omega) (by rw [hn150];simp only [List.length_append,List.length_take,List.length_drop];omega) ?_
   refine enk K37 ?_
   refine A_H ?_
   refine A_A rfl (A_n rfl rfl (by omega) (by omega)) ?_
   refine emm rfl ?_
   refine A_O ?_
   refine A_U (s:=(i)) (i+1) ⟨(by omega),(by omega)⟩ (by omega) (A_J ⟨rfl,rfl,rfl,rfl,rfl,rfl,rfl,trivial⟩ (A_F (rfl) (A_F (rfl) (A_F (own_rws rfl (show bwX r (bwS r (pickL r.Points ws) cs).rows (bwT r (pickL r.Points ws) cs).rows (i+1)=List.set (List.set (bwX r (bwS r (pickL r.Points ws) cs).rows (bwT r (pickL r.Points ws) cs).rows i) (i).toNat ((List.take 0 (ix [] (bwX r (bwS r (pickL r.Points ws) cs).rows (bwT r (pickL r.Points ws) cs).rows i) i)++(ix [] ((bwS r (pickL r.Points ws) cs).rows) i))++List.drop (0+(ix [] ((bwS r (pickL r.Points ws) cs).rows) i).length) (ix [] (bwX r (bwS r (pickL r.Points ws) cs).rows (bwT r (pickL r.Points ws) cs).rows i) i))) (i).toNat ((List.take (r.K).toNat (ix [] (List.set (bwX r (bwS r (pickL r.Points ws) cs).rows (bwT r (pickL r.Points ws) cs).rows i) (i).toNat ((List.take 0 (ix [] (bwX r (bwS r (pickL r.Points ws) cs).rows (bwT r (pickL r.Points ws) cs).rows i) i)++(ix [] ((bwS r (pickL r.Points ws) cs).rows) i))++List.drop (0+(ix [] ((bwS r (pickL r.Points ws) cs).rows) i).length) (ix [] (bwX r (bwS r (pickL r.Points ws) cs).rows (bwT r (pickL r.Points ws) cs).rows i) i))) i)++(ix [] ((bwT r (pickL r.Points ws) cs).rows) i))++List.drop ((r.K).toNat+(ix [] ((bwT r (pickL r.Points ws) cs).rows) i).length) (ix [] (List.set (bwX r (bwS r (pickL r.Points ws) cs).rows (bwT r (pickL r.Points ws) cs).rows i) (i).toNat ((List.take 0 (ix [] (bwX r (bwS r (pickL r.Points ws) cs).rows (bwT r (pickL r.Points ws) cs).rows i) i)++(ix [] ((bwS r (pickL r.Points ws) cs).rows) i))++List.drop (0+(ix [] ((bwS r (pickL r.Points ws) cs).rows) i).length) (ix [] (bwX r (bwS r (pickL r.Points ws) cs).rows (bwT r (pickL r.Points ws) cs).rows i) i))) i)) by exact (bwX_two i0 (by omega) (by omega) hs1 ht1 rfl rfl).symm)) (rfl)))))
  refine esp K37 ?_
  refine A_H ?_
  refine A_A rfl (A_n rfl rfl (by omega) (by omega)) ?_
  refine emm rfl ?_
  refine A_O ?_
  refine A_U (s:=(i)) (i+1) ⟨(by omega),(by omega)⟩ (by omega) (A_J ⟨rfl,rfl,rfl,rfl,rfl,rfl,rfl,trivial⟩ (A_F (rfl) (A_F (rfl) (A_F (own_rws rfl (show bwX r (bwS r (pickL r.Points ws) cs).rows (bwT r (pickL r.Points ws) cs).rows (i+1)=List.set (bwX r (bwS r (pickL r.Points ws) cs).rows (bwT r (pickL r.Points ws) cs).rows i) (i).toNat ((List.take 0 (ix [] (bwX r (bwS r (pickL r.Points ws) cs).rows (bwT r (pickL r.Points ws) cs).rows i) i)++(ix [] ((bwS r (pickL r.Points ws) cs).rows) i))++List.drop (0+(ix [] ((bwS r (pickL r.Points ws) cs).rows) i).length) (ix [] (bwX r (bwS r (pickL r.Points ws) cs).rows (bwT r (pickL r.Points ws) cs).rows i) i)) by exact (bwX_one i0 (by omega) (by omega) hs1 ht1).symm)) (rfl)))))
 refine A_e ?_
 refine A_0 K33 ?_
 refine esk rfl ?_
 refine A_Q ?_
 refine ent_frzRows 1 2 rfl rfl (by decide) ?_
 exact retR1 (.inr rfl) results78 (A_L (A_S rfl (cv_vec (k:=1) (off_x rfl) (by simp_all) (by rw [show i=r.K by omega];exact bwX_all _ _ (by omega) (by omega)))))
end Go.Proofs.Ytaipghchkamajaa

