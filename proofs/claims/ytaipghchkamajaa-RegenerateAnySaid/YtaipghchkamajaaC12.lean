/-
  Walks of functions of the program and the reference.
-/
import Derived.Test.YtaipghchkamajaaC11
open Go Go.Cw
namespace Go.Proofs.Ytaipghchkamajaa
open Try
set_option maxRecDepth 100000
set_option linter.unusedVariables false
set_option linter.unusedSimpArgs false
theorem stepScale_ok (f:Fld) (r:Option Nat) (cap:Nat) (Hs:List Hdr) (xss:List (List Int)) (x p:Int) (hF:FOk f) (hH:Hs.length=xss.length) (hp0:0<=p) (hp1:p<xss.length) (hrl:(ix [] xss p).length<=1000000):CtrW Try.prog 127 [oVec r cap 29 1 false aH Hs,oRws 3 aInt [] Hs xss] [aEx (vec r Hs.length cap),aAt 1 false (aGF f),aAt 1 false (aInt x),aAt 1 false (aInt p)] (fun (H:Hdr)=>True) (fun (H:Hdr)=>aAny) (fun (H:Hdr)=>[oVec r cap 29 1 false aH (List.set Hs p.toNat H),oRws 3 aInt [] (List.set Hs p.toNat H) (List.set xss p.toNat (scaleF f x (ix [] xss p)))]):=by
 refine ctrW_of Try.call127 func127 rfl rfl ?_
 intro w O
 refine ent_drawV1 (e:=3) (enc:=aInt) (xs:=scaleF f x (ix [] xss p)) 9 [] 13 [(5,aEx (vec r Hs.length cap)),(6,aInt p)] [] mixed (by kernel_rfl) (by kernel_rfl) (by kernel_rfl) (by kernel_rfl) (by kernel_rfl) (fun _ _ _ _ _ h=>h) flat_int (AllPlS.mem ⟨pl_ex,pl_ex,trivial⟩) trivial (by kernel_rfl) (fun w=>?_) (fun ra_1 ca_1=>?_)
 ·refine dw_o rfl (A_D rfl) ?_
  refine dw_o rfl (A_P ti3 rfl) ?_
  refine dw_o rfl (A_P ti95 rfl) ?_
  refine dw_o rfl (A_P ti3 rfl) ?_
  refine dw_o rfl (A_D rfl) ?_
  refine dw_o rfl (A_P ti3 rfl) ?_
  refine dw_o rfl (ok_indexV0 (k:=0) sl65 rfl rfl rfl rfl (by omega) (by omega)) ?_
  refine dw_o rfl (ok_loadV0 (k:=0) Hdr.no ti29 rfl rfl (by omega) (by omega)) ?_
  refine dw_o rfl (ok_callFr [1] (Scale_ok f x (ix [] xss p) ‹_› ‹_›) ⟨A_u rfl (A_x (A_l _)),A_u rfl (A_x (A_l _)),A_u rfl (cv_hdr (k:=1) (off_lent rfl (by decide)) (by omega) (by omega) (by exact List.not_mem_nil) rfl),trivial⟩) ?_
  exact ⟨rfl,⟨rfl,rfl,trivial⟩⟩
 refine A_A rfl (ok_indexV0 (k:=1) sl65 rfl rfl rfl rfl (by omega) (by omega)) ?_
 refine ent_storeV0 (k:=1) (z:=⟨ra_1,(scaleF f x (ix [] xss p)).length,ca_1⟩) ti29 rfl rfl rfl (A_z (one_ex rfl)) (by omega) (by omega) ?_
 refine ent_putRow 2 0 p (m:=(scaleF f x (ix [] xss p)).length) [] rfl rfl (by decide) (by simp) rfl ?_
 refine A_O ?_
 exact retW (.inl rfl) (⟨ra_1,(scaleF f x (ix [] xss p)).length,ca_1⟩) (trivial) ((show ([oVec r cap 29 1 false aH (List.set Hs p.toNat (⟨ra_1,(scaleF f x (ix [] xss p)).length,ca_1⟩)),oRws 3 aInt [] (List.set Hs p.toNat (⟨ra_1,(scaleF f x (ix [] xss p)).length,ca_1⟩)) (List.set xss p.toNat (scaleF f x (ix [] xss p)))]:List Own) = [oVec r cap 29 1 false aH (List.set Hs (p).toNat (⟨ra_1,(scaleF f x (ix [] xss p)).length,ca_1⟩)),oRws 3 aInt [] (List.set Hs (p).toNat ⟨ra_1,(scaleF f x (ix [] xss p)).length,ca_1⟩) (List.set xss (p).toNat (scaleF f x (ix [] xss p)))] from (A_F (A_s (show List.set Hs p.toNat (⟨ra_1,(scaleF f x (ix [] xss p)).length,ca_1⟩)=List.set Hs (p).toNat (⟨ra_1,(scaleF f x (ix [] xss p)).length,ca_1⟩) by rfl)) (A_F (own_rws (show List.set Hs p.toNat (⟨ra_1,(scaleF f x (ix [] xss p)).length,ca_1⟩)=List.set Hs (p).toNat ⟨ra_1,(scaleF f x (ix [] xss p)).length,ca_1⟩ by rfl) (show List.set xss p.toNat (scaleF f x (ix [] xss p))=List.set xss (p).toNat (scaleF f x (ix [] xss p)) by rfl)) (rfl)))).symm) (resW0 results127 )

theorem stepAdd_ok (f:Fld) (r:Option Nat) (cap:Nat) (Hs:List Hdr) (xss:List (List Int)) (i x p:Int) (hF:FOk f) (hH:Hs.length=xss.length) (hp0:0<=p) (hp1:p<xss.length) (hi0:0<=i) (hi1:i<xss.length) (hip:i≠p) (hrl:(ix [] xss p).length=(ix [] xss i).length):CtrW Try.prog 128 [oVec r cap 29 1 false aH Hs,oRws 3 aInt [] Hs xss] [aEx (vec r Hs.length cap),aAt 1 false (aGF f),aAt 1 false (aInt i),aAt 1 false (aInt x),aAt 1 false (aInt p)] (fun (_:Unit)=>True) (fun (_:Unit)=>aAny) (fun (_:Unit)=>[oVec r cap 29 1 false aH Hs,oRws 3 aInt [] Hs (List.set xss i.toNat (addTo f (ix [] xss i) (negF f x) (ix [] xss p)))]):=by
 refine ctrW_of Try.call128 func128 rfl rfl ?_
 intro w O
 refine A_w 12 mixed (by kernel_rfl) (by kernel_rfl) (by kernel_rfl) ?_
 refine dw_o rfl (A_P ti95 rfl) ?_
 refine dw_o rfl (A_D rfl) ?_
 refine dw_o rfl (A_P ti3 rfl) ?_
 refine dw_o rfl (ok_indexV0 (k:=0) sl65 rfl rfl rfl rfl (by omega) (by omega)) ?_
 refine dw_o rfl (ok_loadV0 (k:=0) Hdr.no ti29 rfl rfl (by omega) (by omega)) ?_
 refine dw_o rfl (A_P ti95 rfl) ?_
 refine dw_o rfl (A_P ti3 rfl) ?_
 refine dw_o rfl (A_W (Neg_ok f x ‹_›) rfl) ?_
 refine dw_o rfl (A_D rfl) ?_
 refine dw_o rfl (A_P ti3 rfl) ?_
 refine dw_o rfl (ok_indexV0 (k:=0) sl65 rfl rfl rfl rfl (by omega) (by omega)) ?_
 refine dw_o rfl (ok_loadV0 (k:=0) Hdr.no ti29 rfl rfl (by omega) (by omega)) ?_
 refine dw_nil ?_
 refine ent_takeRow 1 i rfl (by omega) (by omega) (by exact List.not_mem_nil) (fun hn10=>?_)
 refine ent_callW (rs:=[oVec r cap 29 1 false aH Hs,oRws 3 aInt [(i).toNat] Hs xss]) [2] rfl (add_ok f ((ix Hdr.no Hs i).r) ((ix Hdr.no Hs i).cap) (ix [] xss i) (negF f x) (ix [] xss p) ‹_› hrl) rfl rfl (.inr ⟨fun (_:Unit)=>pl_any,fun (_:Unit)=>AllFlat.mem ⟨flatOwn_vec flat_int,trivial⟩⟩) ⟨A_u rfl (A_x (A_l _)),A_u rfl (cv_ex (congrArg (fun n=>vec ((ix Hdr.no Hs i).r) n ((ix Hdr.no Hs i).cap)) (show (ix Hdr.no Hs i).n=(ix [] xss i).length by assumption))),A_u rfl (A_x (A_l _)),A_u rfl (cv_hdr (k:=2) (off_lent rfl (by decide)) (by omega) (by omega) (by simp;omega) rfl),trivial⟩ ?_
 rintro ⟨⟩ -
 show Ent _ ⟨_::_,[_,_,_]⟩ _
 refine ent_backRow 2 0 i [] rfl rfl (by decide) (by simp) (by omega) (by omega) (by simp_all) ?_
 refine A_O ?_
 exact retW (.inl rfl) () (trivial) ((show ([oVec r cap 29 1 false aH Hs,oRws 3 aInt [] Hs (List.set xss i.toNat (addTo f (ix [] xss i) (negF f x) (ix [] xss p)))]:List Own) = [oVec r cap 29 1 false aH Hs,oRws 3 aInt [] Hs (List.set xss (i).toNat (addTo f (ix [] xss i) (negF f x) (ix [] xss p)))] from (A_F (rfl) (A_F (own_rws rfl (show List.set xss i.toNat (addTo f (ix [] xss i) (negF f x) (ix [] xss p))=List.set xss (i).toNat (addTo f (ix [] xss i) (negF f x) (ix [] xss p)) by rfl)) (rfl)))).symm) (resW0 results128 )

theorem stepSwap_ok (r:Option Nat) (cap:Nat) (Hs:List Hdr) (xss:List (List Int)) (k p:Int) (hH:Hs.length=xss.length) (hp0:0<=p) (hp1:p<xss.length) (hk0:0<=k) (hk1:k<xss.length):CtrW Try.prog 124 [oVec r cap 29 1 false aH Hs,oRws 3 aInt [] Hs xss] [aEx (vec r Hs.length cap),aAt 1 false (aInt k),aAt 1 false (aInt p)] (fun (_:Unit)=>True) (fun (_:Unit)=>aAny) (fun (_:Unit)=>[oVec r cap 29 1 false aH (List.set (List.set Hs p.toNat (ix Hdr.no Hs k)) k.toNat (ix Hdr.no Hs p)),oRws 3 aInt [] (List.set (List.set Hs p.toNat (ix Hdr.no Hs k)) k.toNat (ix Hdr.no Hs p)) (List.set (List.set xss p.toNat (ix [] xss k)) k.toNat (ix [] xss p))]):=by
 refine ctrW_of Try.call124 func124 rfl rfl ?_
 intro w O
 refine ent_drawL2 12 [2] 3 7 [(1,aAt 1 false (aInt k)),(4,aEx (vec r Hs.length cap)),(5,aInt p),(6,aEx (vec r Hs.length cap)),(11,aH (ix Hdr.no Hs k)),(15,aH (ix Hdr.no Hs p))] mixed (by kernel_rfl) (by kernel_rfl) (by kernel_rfl) (by kernel_rfl) (by kernel_rfl) rfl rfl rfl rfl (by kernel_rfl) (by kernel_rfl) (by kernel_rfl) (by kernel_rfl) (by kernel_rfl) (by kernel_rfl) (by kernel_rfl) (by kernel_rfl) (fun _ _ _ _ _ h=>h) (by kernel_rfl) ?_ ?_
 ·refine dw_o rfl (A_D rfl) ?_
  refine dw_o rfl (A_P ti3 rfl) ?_
  refine dw_o rfl (A_D rfl) ?_
  refine dw_o rfl (A_P ti3 rfl) ?_
  refine dw_o rfl (A_D rfl) ?_
  refine dw_o rfl (A_P ti3 rfl) ?_
  refine dw_o rfl (ok_indexV0 (k:=0) sl65 rfl rfl rfl rfl (by omega) (by omega)) ?_
  refine dw_o rfl (ok_loadV0 (k:=0) Hdr.no ti29 rfl rfl (by omega) (by omega)) ?_
  refine dw_o rfl (A_D rfl) ?_
  refine dw_o rfl (A_P ti3 rfl) ?_
  refine dw_o rfl (ok_indexV0 (k:=0) sl65 rfl rfl rfl rfl (by omega) (by omega)) ?_
  refine dw_o rfl (ok_loadV0 (k:=0) Hdr.no ti29 rfl rfl (by omega) (by omega)) ?_
  refine dw_nil ?_
  refine ⟨⟨rfl,rfl,rfl,rfl,rfl,rfl,trivial⟩,?_⟩
  refine A_A rfl (ok_indexV0 (k:=0) sl65 rfl rfl rfl rfl (by omega) (by omega)) ?_
  refine ent_storeV0 (k:=0) (z:=(ix Hdr.no Hs k)) ti29 rfl rfl rfl (A_z (one_ex rfl)) (by omega) (by omega) ?_
  refine A_A rfl (ok_indexV0 (k:=0) sl65 rfl rfl (by simp) rfl (by omega) (by simp only [List.length_set];omega)) ?_
  refine ent_storeV0 (k:=0) (z:=(ix Hdr.no Hs p)) ti29 rfl rfl rfl (A_z (one_ex rfl)) (by omega) (by simp only [List.length_set];omega) ?_
  refine A_O ?_
  refine ent_swapRows 1 p k rfl (by omega) (by omega) (by omega) (by omega) ?_
  exact retW (.inl rfl) () (trivial) ((show ([oVec r cap 29 1 false aH (List.set (List.set Hs p.toNat (ix Hdr.no Hs k)) k.toNat (ix Hdr.no Hs p)),oRws 3 aInt [] (List.set (List.set Hs p.toNat (ix Hdr.no Hs k)) k.toNat (ix Hdr.no Hs p)) (List.set (List.set xss p.toNat (ix [] xss k)) k.toNat (ix [] xss p))]:List Own) = [oVec r cap 29 1 false aH (List.set (List.set Hs (p).toNat (ix Hdr.no Hs k)) (k).toNat (ix Hdr.no Hs p)),oRws 3 aInt [] (List.set (List.set Hs (p).toNat (ix Hdr.no Hs k)) (k).toNat (ix Hdr.no Hs p)) (List.set (List.set xss (p).toNat (ix [] xss k)) (k).toNat (ix [] xss p))] from (A_F (A_s (show List.set (List.set Hs p.toNat (ix Hdr.no Hs k)) k.toNat (ix Hdr.no Hs p)=List.set (List.set Hs (p).toNat (ix Hdr.no Hs k)) (k).toNat (ix Hdr.no Hs p) by rfl)) (A_F (own_rws (show List.set (List.set Hs p.toNat (ix Hdr.no Hs k)) k.toNat (ix Hdr.no Hs p)=List.set (List.set Hs (p).toNat (ix Hdr.no Hs k)) (k).toNat (ix Hdr.no Hs p) by rfl) (show List.set (List.set xss p.toNat (ix [] xss k)) k.toNat (ix [] xss p)=List.set (List.set xss (p).toNat (ix [] xss k)) (k).toNat (ix [] xss p) by rfl)) (rfl)))).symm) (resW0 results124 )
 refine A_A rfl (ok_indexV0 (k:=0) sl65 rfl rfl rfl rfl (by omega) (by omega)) ?_
 refine A_O ?_
 refine ent_QK (ent_and ?_ ?_)
 ·refine A_A rfl (A_P ti3 rfl) ?_
  refine ent_storeV0 (k:=0) (z:=(ix Hdr.no Hs k)) ti29 rfl rfl rfl (A_z (one_ex rfl)) (by omega) (by omega) ?_
  refine A_A rfl (ok_indexV0 (k:=0) sl65 rfl rfl (by simp) rfl (by omega) (by simp only [List.length_set];omega)) ?_
  refine ent_storeV0 (k:=0) (z:=(ix Hdr.no Hs p)) ti29 rfl rfl rfl (A_z (one_ex rfl)) (by omega) (by simp only [List.length_set];omega) ?_
  refine A_O ?_
  refine ent_swapRows 1 p k rfl (by omega) (by omega) (by omega) (by omega) ?_
  exact retW (.inl rfl) () (trivial) ((show ([oVec r cap 29 1 false aH (List.set (List.set Hs p.toNat (ix Hdr.no Hs k)) k.toNat (ix Hdr.no Hs p)),oRws 3 aInt [] (List.set (List.set Hs p.toNat (ix Hdr.no Hs k)) k.toNat (ix Hdr.no Hs p)) (List.set (List.set xss p.toNat (ix [] xss k)) k.toNat (ix [] xss p))]:List Own) = [oVec r cap 29 1 false aH (List.set (List.set Hs (p).toNat (ix Hdr.no Hs k)) (k).toNat (ix Hdr.no Hs p)),oRws 3 aInt [] (List.set (List.set Hs (p).toNat (ix Hdr.no Hs k)) (k).toNat (ix Hdr.no Hs p)) (List.set (List.set xss (p).toNat (ix [] xss k)) (k).toNat (ix [] xss p))] from (A_F (A_s (show List.set (List.set Hs p.toNat (ix Hdr.no Hs k)) k.toNat (ix Hdr.no Hs p)=List.set (List.set Hs (p).toNat (ix Hdr.no Hs k)) (k).toNat (ix Hdr.no Hs p) by rfl)) (A_F (own_rws (show List.set (List.set Hs p.toNat (ix Hdr.no Hs k)) k.toNat (ix Hdr.no Hs p)=List.set (List.set Hs (p).toNat (ix Hdr.no Hs k)) (k).toNat (ix Hdr.no Hs p) by rfl) (show List.set (List.set xss p.toNat (ix [] xss k)) k.toNat (ix [] xss p)=List.set (List.set xss (p).toNat (ix [] xss k)) (k).toNat (ix [] xss p) by rfl)) (rfl)))).symm) (resW0 results124 )
 refine ent_storeV0 (k:=0) (z:=(ix Hdr.no Hs k)) ti29 rfl rfl rfl (A_z (one_ex rfl)) (by omega) (by omega) ?_
 refine A_O ?_
 refine ent_QK ?_
 refine A_A rfl (A_P ti3 rfl) ?_
 refine A_A rfl (ok_indexV0 (k:=0) sl65 rfl rfl (by simp) rfl (by omega) (by simp only [List.length_set];omega)) ?_
 refine ent_storeV0 (k:=0) (z:=(ix Hdr.no Hs p)) ti29 rfl rfl rfl (A_z (one_ex rfl)) (by omega) (by simp only [List.length_set];omega) ?_
 refine A_O ?_
 refine ent_swapRows 1 p k rfl (by omega) (by omega) (by omega) (by omega) ?_
 exact retW (.inl rfl) () (trivial) ((show ([oVec r cap 29 1 false aH (List.set (List.set Hs p.toNat (ix Hdr.no Hs k)) k.toNat (ix Hdr.no Hs p)),oRws 3 aInt [] (List.set (List.set Hs p.toNat (ix Hdr.no Hs k)) k.toNat (ix Hdr.no Hs p)) (List.set (List.set xss p.toNat (ix [] xss k)) k.toNat (ix [] xss p))]:List Own) = [oVec r cap 29 1 false aH (List.set (List.set Hs (p).toNat (ix Hdr.no Hs k)) (k).toNat (ix Hdr.no Hs p)),oRws 3 aInt [] (List.set (List.set Hs (p).toNat (ix Hdr.no Hs k)) (k).toNat (ix Hdr.no Hs p)) (List.set (List.set xss (p).toNat (ix [] xss k)) (k).toNat (ix [] xss p))] from (A_F (A_s (show List.set (List.set Hs p.toNat (ix Hdr.no Hs k)) k.toNat (ix Hdr.no Hs p)=List.set (List.set Hs (p).toNat (ix Hdr.no Hs k)) (k).toNat (ix Hdr.no Hs p) by rfl)) (A_F (own_rws (show List.set (List.set Hs p.toNat (ix Hdr.no Hs k)) k.toNat (ix Hdr.no Hs p)=List.set (List.set Hs (p).toNat (ix Hdr.no Hs k)) (k).toNat (ix Hdr.no Hs p) by rfl) (show List.set (List.set xss p.toNat (ix [] xss k)) k.toNat (ix [] xss p)=List.set (List.set xss (p).toNat (ix [] xss k)) (k).toNat (ix [] xss p) by rfl)) (rfl)))).symm) (resW0 results124 )

theorem eachSwap_ok (r:Option Nat) (cap:Nat) (Hs:List Hdr) (xss:List (List Int)) (r2:Option Nat) (cap2:Nat) (Ks:List Hdr) (yss:List (List Int)) (k p:Int) (hH:Hs.length=xss.length) (hK:Ks.length=yss.length) (hy:yss = []\/yss.length=xss.length) (hp0:0<=p) (hp1:p<xss.length) (hk0:0<=k) (hk1:k<xss.length):CtrW Try.prog 123 [oVec r cap 29 1 false aH Hs,oRws 3 aInt [] Hs xss,oVec r2 cap2 29 1 false aH Ks,oRws 3 aInt [] Ks yss] [aClo 124 [aAt 1 false (aInt k),aAt 1 false (aInt p)],aAt 1 false (aEx (vec r Hs.length cap)),aAt 1 false (aEx (vec r2 Ks.length cap2))] (fun (_:Unit)=>True) (fun (_:Unit)=>aAny) (fun (_:Unit)=>[oVec r cap 29 1 false aH (List.set (List.set Hs p.toNat (ix Hdr.no Hs k)) k.toNat (ix Hdr.no Hs p)),oRws 3 aInt [] (List.set (List.set Hs p.toNat (ix Hdr.no Hs k)) k.toNat (ix Hdr.no Hs p)) (List.set (List.set xss p.toNat (ix [] xss k)) k.toNat (ix [] xss p)),oVec r2 cap2 29 1 false aH (List.set (List.set Ks p.toNat (ix Hdr.no Ks k)) k.toNat (ix Hdr.no Ks p)),oRws 3 aInt [] (List.set (List.set Ks p.toNat (ix Hdr.no Ks k)) k.toNat (ix Hdr.no Ks p)) (List.set (List.set yss p.toNat (ix [] yss k)) k.toNat (ix [] yss p))]):=by
 refine ctrW_of Try.call123 func123 rfl rfl ?_
 intro w O
 refine esr rfl fun _ K1=>?_
 refine A_A rfl (A_P ti65 rfl) ?_
 refine ent_callWP (As:=[aEx (vec r Hs.length cap)]) (Bs:=[aAt 1 false (aInt k),aAt 1 false (aInt p)]) (rs:=[oVec r2 cap2 29 1 false aH Ks,oRws 3 aInt [] Ks yss]) [] rfl (stepSwap_ok r cap Hs xss k p ‹_› ‹_› ‹_› ‹_› ‹_›) rfl rfl (.inl rfl) rfl ⟨A_u rfl (cv_ex (congrArg (fun n=>vec r n cap) (show Hs.length=Hs.length by rfl))),trivial⟩ ?_
 rintro ⟨⟩ -
 show Ent _ ⟨_::_,[_,_,_,_]⟩ _
 refine enk K1 ?_
 refine esr rfl fun _ K2=>?_
 refine A_A rfl (A_P ti65 rfl) ?_
 refine A_A rfl (ok_lenEx rfl runUnderlying65 rfl) ?_
 refine A_A rfl (ok_gtr rfl rfl) ?_
 refine enk K2 ?_
 refine A_G rfl (fun h9=>?_) (fun h9=>?_)
 ·have hyl:yss.length=xss.length:=by rcases hy with h | h;(rw [h] at hK;have h00:([]:List (List Int)).length=0:=rfl;omega);exact h
  refine A_H ?_
  refine emm rfl ?_
  refine A_A rfl (A_P ti65 rfl) ?_
  refine ent_pm 4 [1,0,3,2] rfl (by decide) rfl ?_
  refine ent_callWP (As:=[aEx (vec r2 Ks.length cap2)]) (Bs:=[aAt 1 false (aInt k),aAt 1 false (aInt p)]) (rs:=[oVec r cap 29 1 false aH (List.set (List.set Hs p.toNat (ix Hdr.no Hs k)) k.toNat (ix Hdr.no Hs p)),oRws 3 aInt [] (List.set (List.set Hs p.toNat (ix Hdr.no Hs k)) k.toNat (ix Hdr.no Hs p)) (List.set (List.set xss p.toNat (ix [] xss k)) k.toNat (ix [] xss p))]) [] rfl (stepSwap_ok r2 cap2 Ks yss k p ‹_› ‹_› (by omega) ‹_› (by omega)) rfl rfl (.inl rfl) rfl ⟨A_u rfl (cv_ex (congrArg (fun n=>vec r2 n cap2) (show Ks.length=Ks.length by rfl))),trivial⟩ ?_
  rintro ⟨⟩ -
  show Ent _ ⟨_::_,[_,_,_,_]⟩ _
  refine ent_pm 4 [1,0,3,2] rfl (by decide) rfl ?_
  refine A_O ?_
  exact retW (.inl rfl) () (trivial) ((show ([oVec r cap 29 1 false aH (List.set (List.set Hs p.toNat (ix Hdr.no Hs k)) k.toNat (ix Hdr.no Hs p)),oRws 3 aInt [] (List.set (List.set Hs p.toNat (ix Hdr.no Hs k)) k.toNat (ix Hdr.no Hs p)) (List.set (List.set xss p.toNat (ix [] xss k)) k.toNat (ix [] xss p)),oVec r2 cap2 29 1 false aH (List.set (List.set Ks p.toNat (ix Hdr.no Ks k)) k.toNat (ix Hdr.no Ks p)),oRws 3 aInt [] (List.set (List.set Ks p.toNat (ix Hdr.no Ks k)) k.toNat (ix Hdr.no Ks p)) (List.set (List.set yss p.toNat (ix [] yss k)) k.toNat (ix [] yss p))]:List Own) = [oVec r cap 29 1 false aH (List.set (List.set Hs p.toNat (ix Hdr.no Hs k)) k.toNat (ix Hdr.no Hs p)),oRws 3 aInt [] (List.set (List.set Hs p.toNat (ix Hdr.no Hs k)) k.toNat (ix Hdr.no Hs p)) (List.set (List.set xss p.toNat (ix [] xss k)) k.toNat (ix [] xss p)),oVec r2 cap2 29 1 false aH (List.set (List.set Ks p.toNat (ix Hdr.no Ks k)) k.toNat (ix Hdr.no Ks p)),oRws 3 aInt [] (List.set (List.set Ks p.toNat (ix Hdr.no Ks k)) k.toNat (ix Hdr.no Ks p)) (List.set (List.set yss p.toNat (ix [] yss k)) k.toNat (ix [] yss p))] from rfl).symm) (resW0 results123 )
 have K0:Ks = []:=List.eq_nil_of_length_eq_zero (by omega)
 have hy0:yss = []:=List.eq_nil_of_length_eq_zero (by omega)
 refine ent_skip ?_
 exact retW (.inl rfl) () (trivial) ((show ([oVec r cap 29 1 false aH (List.set (List.set Hs p.toNat (ix Hdr.no Hs k)) k.toNat (ix Hdr.no Hs p)),oRws 3 aInt [] (List.set (List.set Hs p.toNat (ix Hdr.no Hs k)) k.toNat (ix Hdr.no Hs p)) (List.set (List.set xss p.toNat (ix [] xss k)) k.toNat (ix [] xss p)),oVec r2 cap2 29 1 false aH (List.set (List.set Ks p.toNat (ix Hdr.no Ks k)) k.toNat (ix Hdr.no Ks p)),oRws 3 aInt [] (List.set (List.set Ks p.toNat (ix Hdr.no Ks k)) k.toNat (ix Hdr.no Ks p)) (List.set (List.set yss p.toNat (ix [] yss k)) k.toNat (ix [] yss p))]:List Own) = [oVec r cap 29 1 false aH (List.set (List.set Hs p.toNat (ix Hdr.no Hs k)) k.toNat (ix Hdr.no Hs p)),oRws 3 aInt [] (List.set (List.set Hs p.toNat (ix Hdr.no Hs k)) k.toNat (ix Hdr.no Hs p)) (List.set (List.set xss p.toNat (ix [] xss k)) k.toNat (ix [] xss p)),oVec r2 cap2 29 1 false aH Ks,oRws 3 aInt [] Ks yss] from (A_F (rfl) (A_F (rfl) (A_F (A_s (show List.set (List.set Ks p.toNat (ix Hdr.no Ks k)) k.toNat (ix Hdr.no Ks p)=Ks by rw [K0];rfl)) (A_F (own_rws (show List.set (List.set Ks p.toNat (ix Hdr.no Ks k)) k.toNat (ix Hdr.no Ks p)=Ks by rw [K0];rfl) (show List.set (List.set yss p.toNat (ix [] yss k)) k.toNat (ix [] yss p)=yss by rw [hy0];rfl)) (rfl)))))).symm) (resW0 results123 )

theorem eachScale_ok (f:Fld) (r:Option Nat) (cap:Nat) (Hs:List Hdr) (xss:List (List Int)) (r2:Option Nat) (cap2:Nat) (Ks:List Hdr) (yss:List (List Int)) (x p:Int) (hF:FOk f) (hH:Hs.length=xss.length) (hK:Ks.length=yss.length) (hy:yss = []\/yss.length=xss.length) (hp0:0<=p) (hp1:p<xss.length) (hrl:∀i:Int,(ix [] xss i).length<=1000000) (hsl:∀i:Int,(ix [] yss i).length<=1000000):CtrW Try.prog 123 [oVec r cap 29 1 false aH Hs,oRws 3 aInt [] Hs xss,oVec r2 cap2 29 1 false aH Ks,oRws 3 aInt [] Ks yss] [aClo 127 [aAt 1 false (aGF f),aAt 1 false (aInt x),aAt 1 false (aInt p)],aAt 1 false (aEx (vec r Hs.length cap)),aAt 1 false (aEx (vec r2 Ks.length cap2))] (fun (y:Hdr×Hdr)=>match y with | (H,K)=>True) (fun (y:Hdr×Hdr)=>match y with | (H,K)=>aAny) (fun (y:Hdr×Hdr)=>match y with | (H,K)=>[oVec r cap 29 1 false aH (List.set Hs p.toNat H),oRws 3 aInt [] (List.set Hs p.toNat H) (List.set xss p.toNat (scaleF f x (ix [] xss p))),oVec r2 cap2 29 1 false aH (List.set Ks p.toNat K),oRws 3 aInt [] (List.set Ks p.toNat K) (List.set yss p.toNat (scaleF f x (ix [] yss p)))]):=by
 refine ctrW_of Try.call123 func123 rfl rfl ?_
 intro w O
 refine esr rfl fun _ K1=>?_
 refine A_A rfl (A_P ti65 rfl) ?_
 refine ent_callWP (As:=[aEx (vec r Hs.length cap)]) (Bs:=[aAt 1 false (aGF f),aAt 1 false (aInt x),aAt 1 false (aInt p)]) (rs:=[oVec r2 cap2 29 1 false aH Ks,oRws 3 aInt [] Ks yss]) [] rfl (stepScale_ok f r cap Hs xss x p ‹_› ‹_› ‹_› ‹_› (by exact hrl _)) rfl rfl (.inl rfl) rfl ⟨A_u rfl (cv_ex (congrArg (fun n=>vec r n cap) (show Hs.length=Hs.length by rfl))),trivial⟩ ?_
 rintro H_1 -
 show Ent _ ⟨_::_,[_,_,_,_]⟩ _
 refine enk K1 ?_
 refine esr rfl fun _ K2=>?_
 refine A_A rfl (A_P ti65 rfl) ?_
 refine A_A rfl (ok_lenEx rfl runUnderlying65 rfl) ?_
 refine A_A rfl (ok_gtr rfl rfl) ?_
 refine enk K2 ?_
 refine A_G rfl (fun h9=>?_) (fun h9=>?_)
 ·have hyl:yss.length=xss.length:=by rcases hy with h | h;(rw [h] at hK;have h00:([]:List (List Int)).length=0:=rfl;omega);exact h
  refine A_H ?_
  refine emm rfl ?_
  refine A_A rfl (A_P ti65 rfl) ?_
  refine ent_pm 4 [1,0,3,2] rfl (by decide) rfl ?_
  refine ent_callWP (As:=[aEx (vec r2 Ks.length cap2)]) (Bs:=[aAt 1 false (aGF f),aAt 1 false (aInt x),aAt 1 false (aInt p)]) (rs:=[oVec r cap 29 1 false aH (List.set Hs p.toNat H_1),oRws 3 aInt [] (List.set Hs p.toNat H_1) (List.set xss p.toNat (scaleF f x (ix [] xss p)))]) [] rfl (stepScale_ok f r2 cap2 Ks yss x p ‹_› ‹_› ‹_› (by omega) (by exact hsl _)) rfl rfl (.inl rfl) rfl ⟨A_u rfl (cv_ex (congrArg (fun n=>vec r2 n cap2) (show Ks.length=Ks.length by rfl))),trivial⟩ ?_
  rintro H_2 -
  show Ent _ ⟨_::_,[_,_,_,_]⟩ _
  refine ent_pm 4 [1,0,3,2] rfl (by decide) rfl ?_
  refine A_O ?_
  exact retW (.inl rfl) (H_1,H_2) (trivial) ((show ([oVec r cap 29 1 false aH (List.set Hs p.toNat H_1),oRws 3 aInt [] (List.set Hs p.toNat H_1) (List.set xss p.toNat (scaleF f x (ix [] xss p))),oVec r2 cap2 29 1 false aH (List.set Ks p.toNat H_2),oRws 3 aInt [] (List.set Ks p.toNat H_2) (List.set yss p.toNat (scaleF f x (ix [] yss p)))]:List Own) = [oVec r cap 29 1 false aH (List.set Hs p.toNat H_1),oRws 3 aInt [] (List.set Hs p.toNat H_1) (List.set xss p.toNat (scaleF f x (ix [] xss p))),oVec r2 cap2 29 1 false aH (List.set Ks p.toNat H_2),oRws 3 aInt [] (List.set Ks p.toNat H_2) (List.set yss p.toNat (scaleF f x (ix [] yss p)))] from rfl).symm) (resW0 results123 )
 have K0:Ks = []:=List.eq_nil_of_length_eq_zero (by omega)
 have hy0:yss = []:=List.eq_nil_of_length_eq_zero (by omega)
 refine ent_skip ?_
 exact retW (.inl rfl) (H_1,Hdr.no) (trivial) ((show ([oVec r cap 29 1 false aH (List.set Hs p.toNat H_1),oRws 3 aInt [] (List.set Hs p.toNat H_1) (List.set xss p.toNat (scaleF f x (ix [] xss p))),oVec r2 cap2 29 1 false aH (List.set Ks p.toNat Hdr.no),oRws 3 aInt [] (List.set Ks p.toNat Hdr.no) (List.set yss p.toNat (scaleF f x (ix [] yss p)))]:List Own) = [oVec r cap 29 1 false aH (List.set Hs p.toNat H_1),oRws 3 aInt [] (List.set Hs p.toNat H_1) (List.set xss p.toNat (scaleF f x (ix [] xss p))),oVec r2 cap2 29 1 false aH Ks,oRws 3 aInt [] Ks yss] from (A_F (rfl) (A_F (rfl) (A_F (A_s (show List.set Ks p.toNat Hdr.no=Ks by rw [K0];rfl)) (A_F (own_rws (show List.set Ks p.toNat Hdr.no=Ks by rw [K0];rfl) (show List.set yss p.toNat (scaleF f x (ix [] yss p))=yss by rw [hy0];rfl)) (rfl)))))).symm) (resW0 results123 )

theorem eachAdd_ok (f:Fld) (r:Option Nat) (cap:Nat) (Hs:List Hdr) (xss:List (List Int)) (r2:Option Nat) (cap2:Nat) (Ks:List Hdr) (yss:List (List Int)) (i x p:Int) (hF:FOk f) (hH:Hs.length=xss.length) (hK:Ks.length=yss.length) (hy:yss = []\/yss.length=xss.length) (hp0:0<=p) (hp1:p<xss.length) (hi0:0<=i) (hi1:i<xss.length) (hip:i≠p) (hrl:(ix [] xss p).length=(ix [] xss i).length) (hsl:(ix [] yss p).length=(ix [] yss i).length):CtrW Try.prog 123 [oVec r cap 29 1 false aH Hs,oRws 3 aInt [] Hs xss,oVec r2 cap2 29 1 false aH Ks,oRws 3 aInt [] Ks yss] [aClo 128 [aAt 1 false (aGF f),aAt 1 false (aInt i),aAt 1 false (aInt x),aAt 1 false (aInt p)],aAt 1 false (aEx (vec r Hs.length cap)),aAt 1 false (aEx (vec r2 Ks.length cap2))] (fun (_:Unit)=>True) (fun (_:Unit)=>aAny) (fun (_:Unit)=>[oVec r cap 29 1 false aH Hs,oRws 3 aInt [] Hs (List.set xss i.toNat (addTo f (ix [] xss i) (negF f x) (ix [] xss p))),oVec r2 cap2 29 1 false aH Ks,oRws 3 aInt [] Ks (List.set yss i.toNat (addTo f (ix [] yss i) (negF f x) (ix [] yss p)))]):=by
 refine ctrW_of Try.call123 func123 rfl rfl ?_
 intro w O
 refine esr rfl fun _ K1=>?_
 refine A_A rfl (A_P ti65 rfl) ?_
 refine ent_callWP (As:=[aEx (vec r Hs.length cap)]) (Bs:=[aAt 1 false (aGF f),aAt 1 false (aInt i),aAt 1 false (aInt x),aAt 1 false (aInt p)]) (rs:=[oVec r2 cap2 29 1 false aH Ks,oRws 3 aInt [] Ks yss]) [] rfl (stepAdd_ok f r cap Hs xss i x p ‹_› ‹_› ‹_› ‹_› ‹_› ‹_› ‹_› (by exact hrl)) rfl rfl (.inl rfl) rfl ⟨A_u rfl (cv_ex (congrArg (fun n=>vec r n cap) (show Hs.length=Hs.length by rfl))),trivial⟩ ?_
 rintro ⟨⟩ -
 show Ent _ ⟨_::_,[_,_,_,_]⟩ _
 refine enk K1 ?_
 refine esr rfl fun _ K2=>?_
 refine A_A rfl (A_P ti65 rfl) ?_
 refine A_A rfl (ok_lenEx rfl runUnderlying65 rfl) ?_
 refine A_A rfl (ok_gtr rfl rfl) ?_
 refine enk K2 ?_
 refine A_G rfl (fun h9=>?_) (fun h9=>?_)
 ·have hyl:yss.length=xss.length:=by rcases hy with h | h;(rw [h] at hK;have h00:([]:List (List Int)).length=0:=rfl;omega);exact h
  refine A_H ?_
  refine emm rfl ?_
  refine A_A rfl (A_P ti65 rfl) ?_
  refine ent_pm 4 [1,0,3,2] rfl (by decide) rfl ?_
  refine ent_callWP (As:=[aEx (vec r2 Ks.length cap2)]) (Bs:=[aAt 1 false (aGF f),aAt 1 false (aInt i),aAt 1 false (aInt x),aAt 1 false (aInt p)]) (rs:=[oVec r cap 29 1 false aH Hs,oRws 3 aInt [] Hs (List.set xss i.toNat (addTo f (ix [] xss i) (negF f x) (ix [] xss p)))]) [] rfl (stepAdd_ok f r2 cap2 Ks yss i x p ‹_› ‹_› ‹_› (by omega) ‹_› (by omega) ‹_› (by exact hsl)) rfl rfl (.inl rfl) rfl ⟨A_u rfl (cv_ex (congrArg (fun n=>vec r2 n cap2) (show Ks.length=Ks.length by rfl))),trivial⟩ ?_
  rintro ⟨⟩ -
  show Ent _ ⟨_::_,[_,_,_,_]⟩ _
  refine ent_pm 4 [1,0,3,2] rfl (by decide) rfl ?_
  refine A_O ?_
  exact retW (.inl rfl) () (trivial) ((show ([oVec r cap 29 1 false aH Hs,oRws 3 aInt [] Hs (List.set xss i.toNat (addTo f (ix [] xss i) (negF f x) (ix [] xss p))),oVec r2 cap2 29 1 false aH Ks,oRws 3 aInt [] Ks (List.set yss i.toNat (addTo f (ix [] yss i) (negF f x) (ix [] yss p)))]:List Own) = [oVec r cap 29 1 false aH Hs,oRws 3 aInt [] Hs (List.set xss i.toNat (addTo f (ix [] xss i) (negF f x) (ix [] xss p))),oVec r2 cap2 29 1 false aH Ks,oRws 3 aInt [] Ks (List.set yss i.toNat (addTo f (ix [] yss i) (negF f x) (ix [] yss p)))] from rfl).symm) (resW0 results123 )
 have K0:Ks = []:=List.eq_nil_of_length_eq_zero (by omega)
 have hy0:yss = []:=List.eq_nil_of_length_eq_zero (by omega)
 refine ent_skip ?_
 exact retW (.inl rfl) () (trivial) ((show ([oVec r cap 29 1 false aH Hs,oRws 3 aInt [] Hs (List.set xss i.toNat (addTo f (ix [] xss i) (negF f x) (ix [] xss p))),oVec r2 cap2 29 1 false aH Ks,oRws 3 aInt [] Ks (List.set yss i.toNat (addTo f (ix [] yss i) (negF f x) (ix [] yss p)))]:List Own) = [oVec r cap 29 1 false aH Hs,oRws 3 aInt [] Hs (List.set xss i.toNat (addTo f (ix [] xss i) (negF f x) (ix [] xss p))),oVec r2 cap2 29 1 false aH Ks,oRws 3 aInt [] Ks yss] from (A_F (rfl) (A_F (rfl) (A_F (rfl) (A_F (own_rws rfl (show List.set yss i.toNat (addTo f (ix [] yss i) (negF f x) (ix [] yss p))=yss by rw [hy0];rfl)) (rfl)))))).symm) (resW0 results123 )
end Go.Proofs.Ytaipghchkamajaa

