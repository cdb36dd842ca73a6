/-
  Walks of functions of the program and the reference.
-/
import Derived.Test.YtaipghchkamajaaC14
open Go Go.Cw
namespace Go.Proofs.Ytaipghchkamajaa
open Try
set_option maxRecDepth 100000
set_option linter.unusedVariables false
set_option linter.unusedSimpArgs false
theorem mSolve_ok (f:Fld) (m:Mat) (b:List Int)  : Ctr Try.prog 73 [aFld f,aMat m,aSl 1 false aInt b] (aTup [aSl 1 false aInt (solV f m b),aInt (solE f m b)]):=by
 refine ctr_of Try.call73 func73 rfl rfl ?_
 intro w O
 refine A_o 0 2 rfl rfl (fun hlen0_2=>?_)
 refine A_o 1 1 rfl rfl (fun hlen1_1=>?_)
 refine ent_len 2 rfl (fun hlen2=>?_)
 refine esr rfl fun _ K1=>?_
 refine A_y rfl rfl (AllOne.mem ⟨(A_N _),(A_N _),A_j,trivial⟩) (fun b3_1=>?_)
 refine A_y rfl rfl (AllOne.mem ⟨(A_N _),A_j,trivial⟩) (fun b4_2=>?_)
 refine emm rfl ?_
 refine enk K1 ?_
 refine esr rfl fun _ K2=>?_
 refine A_A rfl (A_R (k:=1) ti51 rfl rfl rfl) ?_
 refine A_A rfl (A_R (k:=0) ti107 rfl rfl rfl) ?_
 refine A_A rfl (ok_build1 (enc:=aMat) (y:=(⟨m.cols,m.rows⟩:Mat)) vt152 rfl (elem_agg (AllOne.mem ⟨(A_N _),A_j,trivial⟩)) (by decide)) ?_
 rcases Classical.em (mErr f m=0) with hm0 | hm0
 ·refine A_A rfl (A_W (open_ok f [(⟨m.cols,m.rows⟩:Mat)] (A_f.1 hm0).1 (by intro q hq;simp only [List.mem_cons,List.not_mem_nil,or_false] at hq;subst hq;exact (A_f.1 hm0).2) (by simp)) rfl) ?_
  refine emm rfl ?_
  refine A_A rfl (A_T rfl rfl) ?_
  refine A_A rfl (A_T rfl rfl) ?_
  refine emm rfl ?_
  refine enk K2 ?_
  refine A_C fun _ K3=>?_
  refine esr rfl fun _ K4=>?_
  refine A_A rfl (ok_neq rfl rfl) ?_
  refine enk K4 ?_
  refine ent_condFP rfl (by decide) ?_
  refine esp K3 ?_
  refine A_C fun _ K5=>?_
  refine A_C fun _ K6=>?_
  have hF:=(A_f.1 hm0).1
  have hme:=(A_f.1 hm0).2
  have hsz:=mat_size hme
  have hgm:=mat_good hme
  refine A_H ?_
  refine emm rfl ?_
  refine A_A rfl (ok_len rfl runUnderlying29 rfl) ?_
  refine A_A rfl (A_B runUnderlying107 rfl sizeOf65 (by decide) rfl) ?_
  refine A_A rfl (A_I (k:=0) isAgg65 rfl rfl rfl) ?_
  refine A_A rfl (ok_len rfl runUnderlying65 rfl) ?_
  refine A_A rfl (ok_neq rfl rfl) ?_
  refine enk K6 ?_
  refine A_G rfl (fun h35=>?_) (fun h35=>?_)
  ·have hse:solE f m b=3:=by rw [solE_no (by rw [sErr_ok hm0,vecErr_len h35];decide),sErr_ok hm0];exact vecErr_len h35
   have hs0:solE f m b≠0:=by rw [hse];decide
   refine esk rfl ?_
   refine A_Q ?_
   exact retR2 (.inr rfl) results73 (A_L (A_S rfl (cv_nil (fun _=>rfl) (by exact (solV_no hs0).symm)))) (A_L (A_S rfl (A_Z (by exact hse.symm))))
  have hvn:sErr f m b=entErr f b:=by rw [sErr_ok hm0];exact vecErr_ent h35
  refine esp K5 ?_
  refine A_C fun _ K8=>?_
  refine esr rfl fun _ K9=>?_
  refine A_A rfl (A_W (entries_ok f b) rfl) ?_
  refine emm rfl ?_
  refine enk K9 ?_
  refine esr rfl fun _ K10=>?_
  refine A_A rfl (ok_neq rfl rfl) ?_
  refine enk K10 ?_
  refine A_G rfl (fun h40=>?_) (fun h40=>?_)
  ·have hse:solE f m b=entErr f b:=by rw [solE_no (by rw [hvn];exact h40),hvn]
   have hs0:solE f m b≠0:=by rw [hse];exact h40
   refine esk rfl ?_
   refine A_Q ?_
   exact retR2 (.inr rfl) results73 (A_L (A_S rfl (cv_nil (fun _=>rfl) (by exact (solV_no hs0).symm)))) (A_L (A_S rfl (A_Z (by exact hse.symm))))
  have hs1:sErr f m b=0:=by rw [hvn];exact Classical.not_not.1 h40
  have hbo:=entErr_zero.1 (Classical.not_not.1 h40)
  have hag:=aug_good hF.1 hgm hbo
  refine esp K8 ?_
  refine esr rfl fun _ K12=>?_
  refine A_A rfl (A_B runUnderlying107 rfl sizeOf65 (by decide) rfl) ?_
  refine A_A rfl (A_I (k:=0) isAgg65 rfl rfl rfl) ?_
  refine ent_callW (rs:=[oBox b4_2 107 [aInt m.cols,aSl 1 false aInts m.rows],oBox b3_1 51 [aInt f.P,aInt f.M,aSl 1 false aInt f.mod]]) [] rfl (clone_ok m.rows (by omega) (fun x hx=>by have:=(hgm x hx).1;omega)) rfl rfl (.inl rfl) ⟨A_u rfl (A_x (A_l _)),trivial⟩ ?_
  rintro ⟨r_3,c_3,Hs_3⟩ h44_3
  show Ent _ ⟨_::_,[_,_,_,_]⟩ _
  have hcl:Hs_3.length=m.rows.length:=h44_3
  refine emm rfl ?_
  refine enk K12 ?_
  refine A_C fun _ K13=>?_
  refine esr rfl fun _ K14=>?_
  refine A_A rfl (ok_lenEx rfl runUnderlying65 rfl) ?_
  refine emm rfl ?_
  refine enk K14 ?_
  refine A_K ?_
  refine A_d (fun (ss:Int×List Hdr)=>match ss with | (i,Hs)=>(⟨[(2,aSl 1 false aInt b),(4,aEx (.pointer (some ⟨b4_2,0,none⟩))),(8,aGF f),(11,aEx (vec r_3 Hs_3.length c_3)),(46,aInt (↑Hs_3.length:Int)),(47,aInt i)],[oVec r_3 c_3 29 1 false aH Hs,oRws 3 aInt [] Hs (mixG (augL m.rows b) m.rows i),oBox b4_2 107 [aInt m.cols,aSl 1 false aInts m.rows],oBox b3_1 51 [aInt f.P,aInt f.M,aSl 1 false aInt f.mod]]⟩:St)) (fun (ss:Int×List Hdr)=>match ss with | (i,Hs)=>(0<=i)/\(i<=m.rows.length)/\(Hs.length=m.rows.length)) (fun (ss:Int×List Hdr)=>match ss with | (i,Hs)=>(m.rows.length-i).toNat) (0,Hs_3) ⟨(by omega),(by omega),hcl⟩ (A_J ⟨rfl,rfl,rfl,rfl,rfl,A_V (A_p (show 0=(0:Int) by rfl)),trivial⟩ (A_F (rfl) (A_F (own_rws rfl (show mixG (augL m.rows b) m.rows (0:Int)=m.rows by exact mixG_zero _ _)) (rfl)))) ?_
  rintro ⟨i,Hs⟩ ⟨h0,h1,hH⟩
  show Ent _ ⟨_,[_,_,_,_]⟩ _
  have lm:(mixG (augL m.rows b) m.rows i).length=m.rows.length:=by rw [length_mixG _ _ (length_augL _ _) h0 (by rw [length_augL];omega),length_augL]
  refine esr rfl fun _ K15=>?_
  refine A_A rfl (A_r rfl rfl) ?_
  refine enk K15 ?_
  refine A_C fun _ K16=>?_
  refine A_G rfl (fun h48=>?_) (fun h48=>?_)
  ·have hmi:=ix_mixG [] (augL m.rows b) m.rows h0 (by rw [length_augL];omega) (length_augL _ _)
   have hri:=row_len hme h0 (by omega)
   rw [<- hmi] at hri
   refine esp K16 ?_
   refine A_C fun _ K17=>?_
   refine A_K ?_
   refine esk rfl ?_
   refine ent_drawFl 11 [0,1] mixed (by kernel_rfl) (by kernel_rfl) (by kernel_rfl) (by kernel_rfl) (by kernel_rfl) (fun _ _ _ _ _ h=>h) ?_
   refine dw_o rfl (A_D rfl) ?_
   refine dw_o rfl (A_D rfl) ?_
   refine dw_o rfl (A_D rfl) ?_
   refine dw_o rfl (A_D rfl) ?_
   refine dw_o rfl (ok_indexV0 (k:=0) sl65 rfl rfl (by simp_all) rfl (by omega) (by omega)) ?_
   refine dw_o rfl (ok_loadV0 (k:=0) Hdr.no ti29 rfl rfl (by omega) (by omega)) ?_
   refine dw_o rfl (A_D rfl) ?_
   refine dw_o rfl (A_D rfl) ?_
   refine dw_o rfl (A_a 0 sl29 rfl rfl (by omega) (by omega)) ?_
   refine dw_o rfl (A_P ti3 rfl) ?_
   refine dw_o rfl (ok_build1 (enc:=aInt) (y:=ix 0 b i) vt29 rfl (A_z (A_N _)) (by decide)) ?_
   refine dw_nil ?_
   refine ent_takeRow 1 i rfl (by omega) (by omega) (by exact List.not_mem_nil) (fun hn55=>?_)
   refine ent_appendS (k:=0) rfl vt29 rfl rfl ‹_› rfl (A_x A_h) (by simp only [List.length_append,List.length_cons,List.length_nil];omega) (by simp only [List.length_append,List.length_cons,List.length_nil];omega) (fun r61_4 cr61_4=>?_)
   refine A_A rfl (ok_indexV0 (k:=1) sl65 rfl rfl (by simp_all) rfl (by omega) (by omega)) ?_
   refine ent_storeV0 (k:=1) (z:=⟨r61_4,((ix [] (mixG (augL m.rows b) m.rows i) i)++[ix 0 b i]).length,cr61_4⟩) ti29 rfl rfl rfl (A_z (one_ex rfl)) (by omega) (by omega) ?_
   refine ent_putRow 2 0 i (m:=((ix [] (mixG (augL m.rows b) m.rows i) i)++[ix 0 b i]).length) [] rfl rfl (by decide) (by simp) rfl ?_
   refine enk K17 ?_
   refine A_H ?_
   refine A_A rfl (A_n rfl rfl (by omega) (by omega)) ?_
   refine emm rfl ?_
   refine A_O ?_
   refine A_U (s:=(i,Hs)) (i+1,List.set Hs (i).toNat (⟨r61_4,((ix [] (mixG (augL m.rows b) m.rows i) i)++[ix 0 b i]).length,cr61_4⟩)) ⟨(by omega),(by omega),(by simp only [List.length_set];exact hH)⟩ (by dsimp only;omega) (A_J ⟨rfl,rfl,rfl,rfl,rfl,rfl,trivial⟩ (A_F (rfl) (A_F (own_rws (show (List.set Hs (i).toNat (⟨r61_4,((ix [] (mixG (augL m.rows b) m.rows i) i)++[ix 0 b i]).length,cr61_4⟩))=List.set Hs (i).toNat ⟨r61_4,((ix [] (mixG (augL m.rows b) m.rows i) i)++[ix 0 b i]).length,cr61_4⟩ by rfl) (show mixG (augL m.rows b) m.rows (i+1)=List.set (mixG (augL m.rows b) m.rows i) (i).toNat ((ix [] (mixG (augL m.rows b) m.rows i) i)++[ix 0 b i]) by rw [hmi,mixG_set [] (augL m.rows b) m.rows h0 (by rw [length_augL];omega) (length_augL _ _),ix_augL h0 (by omega)])) (rfl))))
  have him:mixG (augL m.rows b) m.rows i=augL m.rows b:=mixG_all _ _ (by rw [length_augL];omega) (length_augL _ _)
  have hpl:=piv_le f (augL m.rows b) [] m.cols.toNat
  have hel:=(length_elim f (augL m.rows b) [] m.cols.toNat).1
  have hlg:=length_augL m.rows b
  have hge:=good_elim hF.1 (Y:=[]) hag m.cols.toNat
  have hdl:(List.drop ((((elim f (augL m.rows b) [] m.cols.toNat).piv.length:Nat):Int)).toNat (elim f (augL m.rows b) [] m.cols.toNat).X).length=(elim f (augL m.rows b) [] m.cols.toNat).X.length-(elim f (augL m.rows b) [] m.cols.toNat).piv.length:=by rw [List.length_drop];rfl
  refine A_e ?_
  refine A_0 K13 ?_
  refine A_C fun _ K19=>?_
  rw [him]
  refine A_H ?_
  refine emm rfl ?_
  refine A_A rfl (A_B runUnderlying107 rfl sizeOf3 (by decide) rfl) ?_
  refine A_A rfl (A_I (k:=2) isAgg3 rfl rfl rfl) ?_
  refine ent_open 29 1 false aH (fun _=>rfl) ?_
  refine ent_rows0 3 aInt ?_
  refine ent_pm 6 [5,4,0,1,3,2] rfl (by decide) rfl ?_
  refine ent_callW (rs:=[oBox b4_2 107 [aInt m.cols,aSl 1 false aInts m.rows],oBox b3_1 51 [aInt f.P,aInt f.M,aSl 1 false aInt f.mod]]) [] rfl (eliminate_ok f r_3 c_3 Hs (augL m.rows b) m.cols none 0 [] [] (m.cols.toNat+1) 0 ‹_› (by rw [length_augL];omega) rfl (.inl rfl) hag (wide_nil 0) (by omega) (by omega) (by omega) (by omega) (by rw [length_augL];omega)) rfl rfl (.inl rfl) ⟨A_u rfl (A_x (A_l _)),A_u rfl (cv_ex (congrArg (fun n=>vec r_3 n c_3) (show Hs_3.length=Hs.length by omega))),A_u rfl (A_x (A_l _)),A_u rfl (cv_ex (congrArg (fun n=>vec none n 0) (show 0 = [].length by rfl))),trivial⟩ ?_
  rintro ⟨Hn_7,Kn_7,rp_7,cp_7⟩ h69_7
  show Ent _ ⟨_::_,[_,_,_,_,_,_,_]⟩ _
  refine ent_pm 7 [6,5,1,0,2,3,4] rfl (by decide) rfl ?_
  refine emm rfl ?_
  refine A_A rfl (A_T rfl rfl) ?_
  refine A_A rfl (A_T rfl rfl) ?_
  refine emm rfl ?_
  refine enk K19 ?_
  refine A_C fun _ K20=>?_
  refine A_C fun _ K21=>?_
  refine ent_frzRows 3 4 rfl rfl (by decide) ?_
  refine ent_give 3 11 rfl (cv_vec (k:=3) (off_erase rfl) (by simp_all) rfl) ?_
  refine A_H ?_
  refine emm rfl ?_
  refine A_A rfl (ok_lenEx rfl runUnderlying29 rfl) ?_
  refine A_A rfl (ok_sliceFrom sl65 rfl rfl (by omega) (by omega)) ?_
  refine A_A rfl (ok_len rfl runUnderlying65 rfl) ?_
  refine emm rfl ?_
  refine enk K21 ?_
  refine A_K ?_
  refine A_d (fun (i:Int)=>(⟨[(4,aEx (.pointer (some ⟨b4_2,0,none⟩))),(11,aSl 1 false aInts ((elim f (augL m.rows b) [] m.cols.toNat).X)),(13,aEx (vec rp_7 (((elim f (augL m.rows b) [] m.cols.toNat).piv).length) cp_7)),(75,aSl 1 false aInts (List.drop ((↑(((elim f (augL m.rows b) [] m.cols.toNat).piv).length):Int)).toNat ((elim f (augL m.rows b) [] m.cols.toNat).X))),(76,aInt (↑(List.drop ((↑(((elim f (augL m.rows b) [] m.cols.toNat).piv).length):Int)).toNat ((elim f (augL m.rows b) [] m.cols.toNat).X)).length:Int)),(77,aInt i)],[oVec rp_7 cp_7 3 1 false aInt ((elim f (augL m.rows b) [] m.cols.toNat).piv),oRws 3 aInt [] Kn_7 ((elim f (augL m.rows b) [] m.cols.toNat).Y),oVec none 0 29 1 false aH Kn_7,oBox b4_2 107 [aInt m.cols,aSl 1 false aInts m.rows],oBox b3_1 51 [aInt f.P,aInt f.M,aSl 1 false aInt f.mod]]⟩:St)) (fun (i:Int)=>(0<=i)/\(i<=(List.drop ((((elim f (augL m.rows b) [] m.cols.toNat).piv.length:Nat):Int)).toNat (elim f (augL m.rows b) [] m.cols.toNat).X).length)/\(∀l∈(List.drop ((((elim f (augL m.rows b) [] m.cols.toNat).piv.length:Nat):Int)).toNat (elim f (augL m.rows b) [] m.cols.toNat).X).take i.toNat,ix 0 l m.cols=0)) (fun (i:Int)=>((List.drop ((((elim f (augL m.rows b) [] m.cols.toNat).piv.length:Nat):Int)).toNat (elim f (augL m.rows b) [] m.cols.toNat).X).length-i).toNat) 0 ⟨(by omega),(by omega),(by simp)⟩ (A_J ⟨rfl,rfl,rfl,rfl,rfl,A_V (A_p (show 0=(0:Int) by rfl)),trivial⟩ rfl) ?_
  rintro i ⟨j0,j1,hz⟩
  show Ent _ ⟨_,[_,_,_,_,_]⟩ _
  refine esr rfl fun _ K22=>?_
  refine A_A rfl (A_r rfl rfl) ?_
  refine enk K22 ?_
  refine A_C fun _ K23=>?_
  refine A_G rfl (fun h78=>?_) (fun h78=>?_)
  ·have hrw:(ix [] (List.drop ((((elim f (augL m.rows b) [] m.cols.toNat).piv.length:Nat):Int)).toNat (elim f (augL m.rows b) [] m.cols.toNat).X) i).length=m.cols.toNat+1:=(hge _ (List.mem_of_mem_drop (ix_mem [] _ j0 h78))).1
   refine esp K23 ?_
   refine A_C fun _ K24=>?_
   refine A_K ?_
   refine esr rfl fun _ K25=>?_
   refine A_A rfl (A_a [] sl65 rfl rfl (by omega) (by omega)) ?_
   refine A_A rfl (A_P ti29 rfl) ?_
   refine emm rfl ?_
   refine enk K25 ?_
   refine esr rfl fun _ K26=>?_
   refine A_A rfl (A_B runUnderlying107 rfl sizeOf3 (by decide) rfl) ?_
   refine A_A rfl (A_I (k:=3) isAgg3 rfl rfl rfl) ?_
   refine A_A rfl (A_a 0 sl29 rfl rfl (by omega) (by omega)) ?_
   refine A_A rfl (A_P ti3 rfl) ?_
   refine A_A rfl (ok_neq rfl rfl) ?_
   refine enk K26 ?_
   refine A_G rfl (fun h86=>?_) (fun h86=>?_)
   ·have hso:solE f m b=11:=solE_off hs1 ⟨_,ix_mem [] _ j0 h78,h86⟩
    have hs0:solE f m b≠0:=by rw [hso];decide
    refine esk rfl ?_
    refine A_Q ?_
    exact retR2 (.inr rfl) results73 (A_L (A_S rfl (cv_nil (fun _=>rfl) (by exact (solV_no hs0).symm)))) (A_L (A_S rfl (A_Z (by exact hso.symm))))
   refine esp K24 ?_
   refine A_H ?_
   refine A_A rfl (A_n rfl rfl (by omega) (by omega)) ?_
   refine emm rfl ?_
   refine A_O ?_
   refine A_U (s:=(i)) (i+1) ⟨(by omega),‹_›,(not_take_succ [] j0 h78 hz (Classical.not_not.1 h86))⟩ (by omega) (A_J ⟨rfl,rfl,rfl,rfl,rfl,rfl,trivial⟩ rfl)
  have hsk:solE f m b=0:=solE_ok hs1 (fun ⟨l,hl,hn⟩=>hn (by rw [List.take_of_length_le (by omega)] at hz;exact hz l hl))
  refine A_e ?_
  refine A_0 K20 ?_
  refine esr rfl fun _ K28=>?_
  refine A_A rfl (A_B runUnderlying107 rfl sizeOf3 (by decide) rfl) ?_
  refine A_A rfl (A_I (k:=3) isAgg3 rfl rfl rfl) ?_
  refine ent_make aInt 0 rfl vt29 rfl rfl (by omega) (by omega) (by omega) (fun _ _=>rfl) (AllV.mem ⟨rfl,trivial⟩) (fun b90_8=>?_)
  refine emm rfl ?_
  refine enk K28 ?_
  refine A_C fun _ K29=>?_
  refine esr rfl fun _ K30=>?_
  refine A_A rfl (ok_lenEx rfl runUnderlying29 rfl) ?_
  refine emm rfl ?_
  refine enk K30 ?_
  refine A_K ?_
  refine A_d (fun (i:Int)=>(⟨[(4,aEx (.pointer (some ⟨b4_2,0,none⟩))),(11,aSl 1 false aInts ((elim f (augL m.rows b) [] m.cols.toNat).X)),(17,aEx (vec (some b90_8) ((m.cols).toNat) ((m.cols).toNat))),(91,aEx (vec rp_7 (((elim f (augL m.rows b) [] m.cols.toNat).piv).length) cp_7)),(92,aInt (↑(((elim f (augL m.rows b) [] m.cols.toNat).piv).length):Int)),(93,aInt i)],[oVec (some b90_8) ((m.cols).toNat) 3 1 false aInt (solTo (elim f (augL m.rows b) [] m.cols.toNat) m.cols i.toNat),oVec rp_7 cp_7 3 1 false aInt ((elim f (augL m.rows b) [] m.cols.toNat).piv),oRws 3 aInt [] Kn_7 ((elim f (augL m.rows b) [] m.cols.toNat).Y),oVec none 0 29 1 false aH Kn_7,oBox b4_2 107 [aInt m.cols,aSl 1 false aInts m.rows],oBox b3_1 51 [aInt f.P,aInt f.M,aSl 1 false aInt f.mod]]⟩:St)) (fun (i:Int)=>(0<=i)/\(i<=(elim f (augL m.rows b) [] m.cols.toNat).piv.length)) (fun (i:Int)=>((elim f (augL m.rows b) [] m.cols.toNat).piv.length-i).toNat) 0 ⟨(by omega),(by omega)⟩ (A_J ⟨rfl,rfl,rfl,rfl,rfl,A_V (A_p (show 0=(0:Int) by rfl)),trivial⟩ (A_F (A_s (show solTo (elim f (augL m.rows b) [] m.cols.toNat) m.cols (0:Int).toNat=List.replicate ((m.cols).toNat) 0 by rfl)) (rfl))) ?_
  rintro i ⟨k0,k1⟩
  show Ent _ ⟨_,[_,_,_,_,_,_]⟩ _
  have lsl:=length_solTo (elim f (augL m.rows b) [] m.cols.toNat) m.cols i.toNat
  refine esr rfl fun _ K31=>?_
  refine A_A rfl (A_r rfl rfl) ?_
  refine enk K31 ?_
  refine A_C fun _ K32=>?_
  refine A_G rfl (fun h94=>?_) (fun h94=>?_)
  ·have hpi:=piv_ix f (augL m.rows b) [] m.cols.toNat k0 h94
   have hrw:=wide_ix (good_wide hge) k0 (by omega)
   refine esp K32 ?_
   refine A_C fun _ K33=>?_
   refine A_K ?_
   refine esr rfl fun _ K34=>?_
   refine A_A rfl (ok_indexV0 (k:=1) sl29 rfl rfl rfl rfl (by omega) (by omega)) ?_
   refine A_A rfl (ok_loadV0 (k:=1) 0 ti3 rfl rfl (by omega) (by omega)) ?_
   refine emm rfl ?_
   refine enk K34 ?_
   refine A_w 11 mixed (by kernel_rfl) (by kernel_rfl) (by kernel_rfl) ?_
   refine dw_o rfl (A_D rfl) ?_
   refine dw_o rfl (A_D rfl) ?_
   refine dw_o rfl (A_D rfl) ?_
   refine dw_o rfl (A_D rfl) ?_
   refine dw_o rfl (A_a [] sl65 rfl rfl (by omega) (by omega)) ?_
   refine dw_o rfl (A_P ti29 rfl) ?_
   refine dw_o rfl (A_B runUnderlying107 rfl sizeOf3 (by decide) rfl) ?_
   refine dw_o rfl (A_I (k:=4) isAgg3 rfl rfl rfl) ?_
   refine dw_o rfl (A_a 0 sl29 rfl rfl (by omega) (by omega)) ?_
   refine dw_o rfl (A_P ti3 rfl) ?_
   refine dw_o rfl (ok_indexV sl29 rfl rfl (by omega) (by omega)) ?_
   refine dw_nil ?_
   refine ent_storeV (k:=0) (z:=ix 0 (ix [] ((elim f (augL m.rows b) [] m.cols.toNat).X) i) m.cols) ti3 rfl rfl rfl (A_z (A_N _)) (by omega) (by omega) ?_
   refine enk K33 ?_
   refine A_H ?_
   refine A_A rfl (A_n rfl rfl (by omega) (by omega)) ?_
   refine emm rfl ?_
   refine A_O ?_
   refine A_U (s:=(i)) (i+1) ⟨(by omega),‹_›⟩ (by omega) (A_J ⟨rfl,rfl,rfl,rfl,rfl,rfl,trivial⟩ (A_F (A_s (show solTo (elim f (augL m.rows b) [] m.cols.toNat) m.cols (i+1).toNat=List.set (solTo (elim f (augL m.rows b) [] m.cols.toNat) m.cols i.toNat) (ix 0 ((elim f (augL m.rows b) [] m.cols.toNat).piv) i).toNat (ix 0 (ix [] ((elim f (augL m.rows b) [] m.cols.toNat).X) i) m.cols) by exact solTo_succ _ _ k0)) (rfl)))
  refine A_e ?_
  refine A_0 K29 ?_
  refine esk rfl ?_
  refine A_Q ?_
  exact retR2 (.inr rfl) results73 (A_L (A_S rfl (cv_vec (k:=0) (off_x rfl) (by simp) (by rw [solV_ok hsk];unfold solX;congr 1;omega)))) (A_L (A_S rfl (A_Z (by exact hsk.symm))))
 refine A_A rfl (A_W (open_no f [(⟨m.cols,m.rows⟩:Mat)] (by rw [opErr_one];exact hm0)) rfl) ?_
 refine emm rfl ?_
 refine A_A rfl (A_T rfl rfl) ?_
 refine A_A rfl (A_T rfl rfl) ?_
 refine emm rfl ?_
 refine enk K2 ?_
 refine A_C fun _ K36=>?_
 refine esr rfl fun _ K37=>?_
 refine A_A rfl (ok_neq rfl rfl) ?_
 refine enk K37 ?_
 refine A_G rfl (fun h28=>?_) (fun h28=>?_)
 ·have hse:solE f m b=mErr f m:=by rw [solE_no (by rw [sErr_no hm0];exact hm0),sErr_no hm0]
  have hs0:solE f m b≠0:=by rw [hse];exact hm0
  refine esk rfl ?_
  refine A_Q ?_
  exact retR2 (.inr rfl) results73 (A_L (A_S rfl (cv_nil (fun _=>rfl) (by exact (solV_no hs0).symm)))) (A_L (A_S rfl (A_Z (by rw [hse];exact opErr_one f m))))
 exact absurd (Classical.not_not.1 h28) (by rw [opErr_one];exact hm0)
end Go.Proofs.Ytaipghchkamajaa

