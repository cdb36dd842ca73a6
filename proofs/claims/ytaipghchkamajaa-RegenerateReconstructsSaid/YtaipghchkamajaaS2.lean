/-
  Walks.
-/
import Derived.Test.YtaipghchkamajaaS1
open Go Go.Cw
namespace Go.Proofs.Ytaipghchkamajaa
open Try
set_option maxRecDepth 100000
set_option linter.unusedVariables false
set_option linter.unusedSimpArgs false
theorem F_u (f:Fld) (m:Mat)  : Ctr Try.prog 134 [aFld f,aMat m] (aTup [aMat (turM f m),aInt (mErr f m)]):=by
 refine B_E Try.call134 func134 rfl rfl ?_
 intro w O
 refine A_l 0 2 rfl rfl fun hlen0_2=>A_l 1 1 rfl rfl fun hlen1_1=>esr rfl fun _ K1=>A_w rfl rfl (AllOne.mem ⟨(A_N _),(A_N _),A_j,trivial⟩) fun b2_1=>A_w rfl rfl (AllOne.mem ⟨(A_N _),A_j,trivial⟩) fun b3_2=>B_V (z:=.agg #[.int .i64 0,.slice none 0 0]) [aInt 0,aEx (.slice none 0 0)] rfl zv107 rfl zc107 fun b4_3=>emm rfl <|enk K1 <|A_C fun _ K2=>esr rfl fun _ K3=>A_A rfl (A_S (k:=2) ti51 rfl rfl rfl) <|A_A rfl (A_S (k:=1) ti107 rfl rfl rfl) <|A_A rfl (C_Z (enc:=aMat) (y:=(⟨m.cols,m.rows⟩:Mat)) vt152 rfl (D_y (AllOne.mem ⟨(A_N _),A_j,trivial⟩))) ?_
 rcases Classical.em (mErr f m=0) with hm0 | hm0
 ·refine A_A rfl (A_X (open_ok f [(⟨m.cols,m.rows⟩:Mat)] (A_i.1 hm0).1 (by intro q hq;simp only [List.mem_cons,List.not_mem_nil,or_false] at hq;subst hq;exact (A_i.1 hm0).2) (by simp)) rfl) <|emm rfl <|A_A rfl (A_V rfl rfl) <|A_A rfl (A_V rfl rfl) <|emm rfl <|enk K3 <|esr rfl fun _ K4=>A_A rfl (B_B rfl rfl) <|enk K4 <|C_4 rfl (by decide) <|esp K2 <|A_C fun _ K5=>?_
  have hF:=(A_i.1 hm0).1
  have hme:=(A_i.1 hm0).2
  have hsz:=C_N hme
  have hgm:=C_O hme
  refine ent_drawA1 (e1:=29) (T:=107) (enc1:=aH) (xs1:=(List.replicate (m.cols).toNat Hdr.no:List Hdr)) (A0:=aInt (↑m.rows.length:Int)) (As:=[aInt 0,aEx (.slice none 0 0)]) 8 [] 29 8 [] [(3,aEx (.pointer (some ⟨b3_2,0,none⟩))),(4,aEx (.pointer (some ⟨b4_3,0,none⟩)))] mixed (by kernel_rfl) (by kernel_rfl) (by kernel_rfl) (by kernel_rfl) (by kernel_rfl) (fun _ _ _ _ _ h=>h) flat_hdr (by decide) (by decide) D_U (AllPl.mem ⟨D_U,D_U,trivial⟩) (AllPlS.mem (T:=[]) trivial) ⟨rfl,rfl,trivial⟩ (by kernel_rfl) (fun w=>?_) (fun ra_4 ca_4 bb_4=>?_)
  ·refine dw_o rfl (A_B runUnderlying107 rfl sizeOf65 (by decide) rfl) <|dw_o rfl (A_K (k:=1) isAgg65 rfl rfl rfl) <|dw_o rfl (A_5 rfl runUnderlying65 rfl) <|dw_o rfl (A_B runUnderlying107 rfl sizeOf3 (by decide) rfl) <|dw_o rfl (A_K (k:=1) isAgg3 rfl rfl rfl) <|dw_o rfl (ok_makeA aH Hdr.no vt65 rfl rfl (by omega) (by omega) (by omega) (fun _ _=>rfl) (AllV.mem ⟨rfl,trivial⟩)) <|dw_o rfl (B_y st107 (As:=[aInt 0,aEx (.slice none 0 0)]) z107 (⟨0,1,rfl,.inl ⟨rfl,_,rfl,(A_N _),rfl,⟨1,1,rfl,.inl ⟨rfl,_,rfl,E_h,rfl,rfl⟩⟩⟩⟩)) <|dw_o rfl (C_a (z:=.agg #[.int .i64 0,.slice none 0 0]) [aInt 0,aEx (.slice none 0 0)] zv107 rfl zc107) ?_
   exact ⟨⟨rfl,rfl⟩,trivial⟩
  refine ent_rowsN 3 aInt ((m.cols).toNat) <|A_2 (k:=1) sizeOf107 rfl rfl rfl (AllOne.mem ⟨(A_N _),(B_b rfl),trivial⟩) rfl rfl ?_
  show Ent _ ⟨_,[_,_,_,_,_,_]⟩ _
  refine enk K5 <|A_C fun _ K6=>esr rfl fun _ K7=>A_A rfl (A_B runUnderlying107 rfl sizeOf65 (by decide) rfl) <|A_A rfl (A_K (k:=1) isAgg65 rfl rfl rfl) <|A_A rfl (B_T rfl runUnderlying65 rfl) <|emm rfl <|enk K7 <|A_I <|A_Y (fun (ss:Int×List Hdr)=>match ss with | (j,Hs)=>(⟨[(3,aEx (.pointer (some ⟨b3_2,0,none⟩))),(4,aEx (.pointer (some ⟨b4_3,0,none⟩))),(8,aEx (.pointer (some ⟨bb_4,0,none⟩))),(32,aInt (↑(((List.replicate (m.cols).toNat Hdr.no:List Hdr)).length):Int)),(33,aInt j)],[oRws 3 aInt [] Hs (mixG (turnL m.rows m.cols) (List.replicate m.cols.toNat []) j),oBox bb_4 107 [aInt (↑m.rows.length:Int),aEx (vec ra_4 (((List.replicate (m.cols).toNat Hdr.no:List Hdr)).length) ca_4)],oVec ra_4 ca_4 29 1 false aH Hs,oBox b4_3 107 [aInt 0,aEx (.slice none 0 0)],oBox b3_2 107 [aInt m.cols,aSl 1 false aInts m.rows],oBox b2_1 51 [aInt f.P,aInt f.M,aSl 1 false aInt f.mod]]⟩:St)) (fun (ss:Int×List Hdr)=>match ss with | (j,Hs)=>(0<=j)/\(j<=m.cols)/\(Hs.length=m.cols.toNat)) (fun (ss:Int×List Hdr)=>match ss with | (j,Hs)=>(m.cols-j).toNat) (0,(List.replicate (m.cols).toNat Hdr.no:List Hdr)) ⟨(by omega),(by omega),(by simp)⟩ (A_J ⟨rfl,rfl,rfl,rfl,A_Q (A_k (show 0=(0:Int) by rfl)),trivial⟩ (A_G (A_4 (show (List.replicate (m.cols).toNat Hdr.no:List Hdr)=List.replicate ((m.cols).toNat) Hdr.no by rfl) (show mixG (turnL m.rows m.cols) (List.replicate m.cols.toNat []) (0:Int)=List.replicate ((m.cols).toNat) [] by exact E_G _ _)) (rfl))) ?_
  rintro ⟨j,Hs⟩ ⟨h0,h1,hH⟩
  show Ent _ ⟨_,[_,_,_,_,_,_]⟩ _
  have lm:(mixG (turnL m.rows m.cols) (List.replicate m.cols.toNat []) j).length=m.cols.toNat:=by rw [D_D _ _ (by rw [B_X];simp) h0 (by rw [B_X];omega),B_X]
  refine esr rfl fun _ K8=>A_A rfl (A_m rfl rfl) <|enk K8 <|A_C fun _ K9=>?_
  refine A_H rfl (fun h34=>?_) (fun h34=>?_)
  ·have hj:j<m.cols:=by rw [l_R] at h34;omega
   refine esp K9 <|A_C fun _ K10=>A_I <|esk rfl <|A_C fun _ K12=>?_
   refine ent_drawV1 (e:=3) (enc:=aInt) (xs:=(List.replicate ((↑m.rows.length:Int)).toNat 0:List Int)) 7 [] 42 [(37,aEx (vec ra_4 (((List.replicate (m.cols).toNat Hdr.no:List Hdr)).length) ca_4)),(38,aInt j)] [(3,aEx (.pointer (some ⟨b3_2,0,none⟩))),(4,aEx (.pointer (some ⟨b4_3,0,none⟩))),(8,aEx (.pointer (some ⟨bb_4,0,none⟩))),(9,aInt j),(32,aInt (↑(((List.replicate (m.cols).toNat Hdr.no:List Hdr)).length):Int)),(33,aInt j)] mixed (by kernel_rfl) (by kernel_rfl) (by kernel_rfl) (by kernel_rfl) (by kernel_rfl) (fun _ _ _ _ _ h=>h) B_j (AllPlS.mem ⟨D_U,D_U,trivial⟩) ⟨rfl,rfl,rfl,rfl,rfl,rfl,trivial⟩ (by kernel_rfl) (fun w=>?_) (fun ra_5 ca_5=>?_)
   ·refine dw_o rfl (A_B runUnderlying107 rfl sizeOf65 (by decide) rfl) <|dw_o rfl (A_K (k:=1) isAgg65 rfl rfl rfl) <|dw_o rfl (A_D rfl) <|dw_o rfl (A_B runUnderlying107 rfl sizeOf65 (by decide) rfl) <|dw_o rfl (A_K (k:=4) isAgg65 rfl rfl rfl) <|dw_o rfl (A_5 rfl runUnderlying65 rfl) <|dw_o rfl (ok_makeA aInt 0 vt29 rfl rfl (by omega) (by omega) (by omega) (fun _ _=>rfl) (AllV.mem ⟨rfl,trivial⟩)) ?_
    exact ⟨rfl,⟨rfl,rfl,trivial⟩⟩
   refine A_A rfl (A_8 (k:=3) sl65 rfl rfl (by simp_all) rfl) <|C_L (k:=3) (z:=⟨ra_5,((List.replicate ((↑m.rows.length:Int)).toNat 0:List Int)).length,ca_5⟩) ti29 rfl rfl rfl (A_n (B_b rfl)) (by omega) (by omega) <|D_e 1 0 j (m:=((List.replicate ((↑m.rows.length:Int)).toNat 0:List Int)).length) [] rfl rfl (by decide) (by simp) rfl <|enk K12 <|esr rfl fun _ K13=>A_A rfl (A_B runUnderlying107 rfl sizeOf65 (by decide) rfl) <|A_A rfl (A_K (k:=4) isAgg65 rfl rfl rfl) <|A_A rfl (A_5 rfl runUnderlying65 rfl) <|emm rfl <|enk K13 <|A_I <|A_Y (fun (i:Int)=>(⟨[(3,aEx (.pointer (some ⟨b3_2,0,none⟩))),(4,aEx (.pointer (some ⟨b4_3,0,none⟩))),(8,aEx (.pointer (some ⟨bb_4,0,none⟩))),(9,aInt j),(32,aInt (↑(((List.replicate (m.cols).toNat Hdr.no:List Hdr)).length):Int)),(33,aInt j),(45,aSl 1 false aInts m.rows),(46,aInt (↑m.rows.length:Int)),(47,aInt i)],[oRws 3 aInt [] (List.set Hs (j).toNat ⟨ra_5,((List.replicate ((↑m.rows.length:Int)).toNat 0:List Int)).length,ca_5⟩) ((mixG (turnL m.rows m.cols) (List.replicate m.cols.toNat []) j).set j.toNat (mixL (colC m.rows j) (List.replicate m.rows.length 0) i)),oBox bb_4 107 [aInt (↑m.rows.length:Int),aEx (vec ra_4 (((List.replicate (m.cols).toNat Hdr.no:List Hdr)).length) ca_4)],oVec ra_4 ca_4 29 1 false aH (List.set Hs (j).toNat (⟨ra_5,((List.replicate ((↑m.rows.length:Int)).toNat 0:List Int)).length,ca_5⟩)),oBox b4_3 107 [aInt 0,aEx (.slice none 0 0)],oBox b3_2 107 [aInt m.cols,aSl 1 false aInts m.rows],oBox b2_1 51 [aInt f.P,aInt f.M,aSl 1 false aInt f.mod]]⟩:St)) (fun (i:Int)=>(0<=i)/\(i<=m.rows.length)) (fun (i:Int)=>(m.rows.length-i).toNat) 0 ⟨(by omega),(by omega)⟩ (A_J ⟨rfl,rfl,rfl,rfl,rfl,rfl,rfl,rfl,A_Q (A_k (show 0=(0:Int) by rfl)),trivial⟩ (A_G (A_4 rfl (show (mixG (turnL m.rows m.cols) (List.replicate m.cols.toNat []) j).set j.toNat (mixL (colC m.rows j) (List.replicate m.rows.length 0) (0:Int))=List.set (mixG (turnL m.rows m.cols) (List.replicate m.cols.toNat []) j) (j).toNat (List.replicate ((↑m.rows.length:Int)).toNat 0:List Int) by rw [D_M];rfl)) (rfl))) ?_
   rintro i ⟨i0,i1⟩
   show Ent _ ⟨_,[_,_,_,_,_,_]⟩ _
   have lml:(mixL (colC m.rows j) (List.replicate m.rows.length 0) i).length=m.rows.length:=by rw [B_6 _ _ (by simp)];simp
   refine esr rfl fun _ K14=>A_A rfl (A_m rfl rfl) <|enk K14 <|A_C fun _ K15=>?_
   refine A_H rfl (fun h48=>?_) (fun h48=>?_)
   ·have hri:=F_J hme i0 h48
    refine esp K15 <|A_C fun _ K16=>A_I <|esr rfl fun _ K17=>A_A rfl (A_W [] sl65 rfl rfl) <|A_A rfl (A_P ti29 rfl) <|emm rfl <|enk K17 <|A_u 11 mixed (by kernel_rfl) (by kernel_rfl) (by kernel_rfl) <|dw_o rfl (A_B runUnderlying107 rfl sizeOf65 (by decide) rfl) <|dw_o rfl (A_K (k:=1) isAgg65 rfl rfl rfl) <|dw_o rfl (A_D rfl) <|dw_o rfl (A_8 (k:=2) sl65 rfl rfl (by simp_all) rfl (by omega) (by simp only [l_S];omega)) <|dw_o rfl (B_O (k:=2) Hdr.no ti29 rfl rfl (by omega) (by simp only [l_S];omega)) <|dw_o rfl (A_D rfl) <|dw_o rfl (A_D rfl) <|dw_o rfl (A_D rfl) <|dw_o rfl (A_W 0 sl29 rfl rfl) <|dw_o rfl (A_P ti3 rfl) <|dw_o rfl (B_4 (k:=0) sl29 rfl rfl rfl (by omega) (by simp only [l_S];omega) (by exact List.not_mem_nil) (by omega) (by rw [E_3 _ h0 (by omega)];omega)) <|A_9 <|C_W (k:=0) (z:=ix 0 (ix [] m.rows i) j) ti3 rfl rfl rfl (A_n (A_N _)) (by omega) (by simp only [l_S];omega) (by omega) (by rw [E_3 _ h0 (by omega)];omega) <|enk K16 <|A_F <|A_A rfl (A_g rfl rfl) <|emm rfl <|A_O ?_
    refine A_T (s:=(i)) (i+1) ⟨(by omega),‹_›⟩ (by omega) (A_J ⟨rfl,rfl,rfl,rfl,rfl,rfl,rfl,rfl,rfl,trivial⟩ (A_G (A_4 rfl (show (mixG (turnL m.rows m.cols) (List.replicate m.cols.toNat []) j).set j.toNat (mixL (colC m.rows j) (List.replicate m.rows.length 0) (i+1))=List.set ((mixG (turnL m.rows m.cols) (List.replicate m.cols.toNat []) j).set j.toNat (mixL (colC m.rows j) (List.replicate m.rows.length 0) i)) (j).toNat (List.set (ix [] ((mixG (turnL m.rows m.cols) (List.replicate m.cols.toNat []) j).set j.toNat (mixL (colC m.rows j) (List.replicate m.rows.length 0) i)) j) (i).toNat (ix 0 (ix [] m.rows i) j)) by exact turnL_ent h0 (by omega) i0 h48)) (rfl)))
   refine A_Z <|A_1 K10 <|A_F <|A_A rfl (A_g rfl rfl) <|emm rfl <|A_O ?_
   refine A_T (s:=(j,Hs)) (j+1,List.set Hs (j).toNat ⟨ra_5,((List.replicate ((↑m.rows.length:Int)).toNat 0:List Int)).length,ca_5⟩) ⟨(by omega),‹_›,(by simp only [l_S];exact hH)⟩ (by dsimp only;omega) (A_J ⟨rfl,rfl,rfl,rfl,rfl,trivial⟩ (A_G (A_4 (show (List.set Hs (j).toNat ⟨ra_5,((List.replicate ((↑m.rows.length:Int)).toNat 0:List Int)).length,ca_5⟩)=List.set Hs (j).toNat ⟨ra_5,((List.replicate ((↑m.rows.length:Int)).toNat 0:List Int)).length,ca_5⟩ by rfl) (show mixG (turnL m.rows m.cols) (List.replicate m.cols.toNat []) (j+1)=(mixG (turnL m.rows m.cols) (List.replicate m.cols.toNat []) j).set j.toNat (mixL (colC m.rows j) (List.replicate m.rows.length 0) i) by exact turnL_mix h0 hj (by omega))) (A_G (rfl) (A_G (A_e (show (List.set Hs (j).toNat ⟨ra_5,((List.replicate ((↑m.rows.length:Int)).toNat 0:List Int)).length,ca_5⟩)=List.set Hs (j).toNat (⟨ra_5,((List.replicate ((↑m.rows.length:Int)).toNat 0:List Int)).length,ca_5⟩) by rfl)) (rfl)))))
  have hj:¬j<m.cols:=by rw [l_R] at h34;omega
  refine A_Z <|A_1 K6 <|esr rfl fun _ K18=>A_A rfl (A_S (k:=1) ti107 rfl rfl rfl) <|A_2 (k:=3) sizeOf107 rfl rfl rfl (AllOne.mem ⟨(A_N _),(B_b rfl),trivial⟩) rfl rfl ?_
  show Ent _ ⟨_,[_,_,_,_,_,_]⟩ _
  refine emm rfl <|enk K18 <|A_R <|B_q 2 0 rfl rfl (by decide) ?_
  exact retR2 (.inr rfl) results134 (C_E (k:=2) ti107 rfl rfl rfl (B_9 ⟨A_b (by rw [D_0 hm0]),B_g (k:=1) (D_3 rfl) (by simp_all) (by rw [D_0 hm0];show _=turnL _ _;exact G_q _ _ (by rw [B_X];omega) (by rw [B_X];simp)),trivial⟩)) (A_L (A_U rfl (A_b (by exact hm0.symm))))
 refine A_A rfl (A_X (open_no f [(⟨m.cols,m.rows⟩:Mat)] (by rw [C_5];exact hm0)) rfl) <|emm rfl <|A_A rfl (A_V rfl rfl) <|A_A rfl (A_V rfl rfl) <|emm rfl <|enk K3 <|esr rfl fun _ K19=>A_A rfl (B_B rfl rfl) <|enk K19 ?_
 refine A_H rfl (fun h20=>?_) (fun h20=>?_)
 ·refine esr rfl fun _ K20=>A_A rfl (B_y st107 (As:=[aInt 0,aEx (.slice none 0 0)]) z107 (rfl)) <|emm rfl <|A_2 (k:=0) sizeOf107 rfl rfl rfl (AllOne.mem ⟨(A_N _),(B_b rfl),trivial⟩) rfl rfl ?_
  show Ent _ ⟨_,[_,_,_]⟩ _
  refine emm rfl <|enk K20 <|A_R ?_
  exact retR2 (.inr rfl) results134 (C_E (k:=0) ti107 rfl rfl rfl (B_9 ⟨A_b (by rw [turM_no hm0];rfl),D_R (fun _=>rfl) (by rw [turM_no hm0];rfl),trivial⟩)) (A_L (A_U rfl (A_b (by exact C_5 f m))))
 exact absurd (n_N h20) (by rw [C_5];exact hm0)

theorem mInverse_ok (f:Fld) (m:Mat)  : Ctr Try.prog 133 [aFld f,aMat m] (aTup [aMat (invM f m),aInt (invE f m)]):=by
 refine B_E Try.call133 func133 rfl rfl ?_
 intro w O
 refine A_l 0 2 rfl rfl fun hlen0_2=>A_l 1 1 rfl rfl fun hlen1_1=>esr rfl fun _ K1=>A_w rfl rfl (AllOne.mem ⟨(A_N _),(A_N _),A_j,trivial⟩) fun b2_1=>A_w rfl rfl (AllOne.mem ⟨(A_N _),A_j,trivial⟩) fun b3_2=>B_V (z:=.agg #[.int .i64 0,.slice none 0 0]) [aInt 0,aEx (.slice none 0 0)] rfl zv107 rfl zc107 fun b4_3=>emm rfl <|enk K1 <|esr rfl fun _ K2=>A_A rfl (A_S (k:=2) ti51 rfl rfl rfl) <|A_A rfl (A_S (k:=1) ti107 rfl rfl rfl) <|A_A rfl (C_Z (enc:=aMat) (y:=(⟨m.cols,m.rows⟩:Mat)) vt152 rfl (D_y (AllOne.mem ⟨(A_N _),A_j,trivial⟩))) ?_
 rcases Classical.em (mErr f m=0) with hm0 | hm0
 ·refine A_A rfl (A_X (open_ok f [(⟨m.cols,m.rows⟩:Mat)] (A_i.1 hm0).1 (by intro q hq;simp only [List.mem_cons,List.not_mem_nil,or_false] at hq;subst hq;exact (A_i.1 hm0).2) (by simp)) rfl) <|emm rfl <|A_A rfl (A_V rfl rfl) <|A_A rfl (A_V rfl rfl) <|emm rfl <|enk K2 <|A_C fun _ K3=>esr rfl fun _ K4=>A_A rfl (B_B rfl rfl) <|enk K4 <|C_4 rfl (by decide) <|esp K3 <|A_C fun _ K5=>A_C fun _ K6=>?_
  have hF:=(A_i.1 hm0).1
  have hme:=(A_i.1 hm0).2
  have hsz:=C_N hme
  have hgm:=C_O hme
  refine A_F <|A_A rfl (A_B runUnderlying107 rfl sizeOf65 (by decide) rfl) <|A_A rfl (A_K (k:=1) isAgg65 rfl rfl rfl) <|A_A rfl (A_5 rfl runUnderlying65 rfl) <|A_A rfl (A_B runUnderlying107 rfl sizeOf3 (by decide) rfl) <|A_A rfl (A_K (k:=1) isAgg3 rfl rfl rfl) <|A_A rfl (B_B rfl rfl) <|enk K6 ?_
  refine A_H rfl (fun h27=>?_) (fun h27=>?_)
  ·have hqe:invE f m=3:=by rw [invE_no (by rw [sqErr_bad hm0 h27];decide),sqErr_bad hm0 h27]
   have hq0:invE f m≠0:=by rw [hqe];decide
   refine esr rfl fun _ K7=>A_A rfl (B_y st107 (As:=[aInt 0,aEx (.slice none 0 0)]) z107 (rfl)) <|A_2 (k:=0) sizeOf107 rfl rfl rfl (AllOne.mem ⟨(A_N _),(B_b rfl),trivial⟩) rfl rfl ?_
   show Ent _ ⟨_,[_,_,_]⟩ _
   refine emm rfl <|enk K7 <|A_R ?_
   exact retR2 (.inr rfl) results133 (C_E (k:=0) ti107 rfl rfl rfl (B_9 ⟨A_b (by rw [G_L hq0];rfl),D_R (fun _=>rfl) (by rw [G_L hq0];rfl),trivial⟩)) (A_L (A_U rfl (A_b (by exact hqe.symm))))
  have hqk:=sqErr_ok hm0 h27
  have hsq:(m.rows.length:Int)=m.cols:=n_N h27
  have htx:traX f m=elim f m.rows (uni m.cols) m.cols.toNat:=by unfold traX;rw [hsq]
  refine esp K5 <|esr rfl fun _ K8=>A_A rfl (A_B runUnderlying107 rfl sizeOf3 (by decide) rfl) <|A_A rfl (A_K (k:=1) isAgg3 rfl rfl rfl) <|B_0 (rs:=[oBox b4_3 107 [aInt 0,aEx (.slice none 0 0)],oBox b3_2 107 [aInt m.cols,aSl 1 false aInts m.rows],oBox b2_1 51 [aInt f.P,aInt f.M,aSl 1 false aInt f.mod]]) [] rfl (unit_ok m.cols (by omega) (by omega)) rfl rfl (.inl rfl) ⟨A_z rfl (A_y (A_p _)),trivial⟩ ?_
  rintro ⟨r_4,c_4,Hs_4⟩ h31_4
  show Ent _ ⟨_::_,[_,_,_,_,_]⟩ _
  have hun:Hs_4.length=m.cols.toNat:=h31_4
  refine emm rfl <|enk K8 <|A_C fun _ K9=>?_
  refine ent_drawW1M (φ:=fun (y:Option Nat×Nat×List Hdr)=>match y with | (r,c,Hs)=>Hs.length=m.rows.length) (A:=fun (y:Option Nat×Nat×List Hdr)=>match y with | (r,c,Hs)=>aEx (vec r Hs.length c)) (Ws:=fun (y:Option Nat×Nat×List Hdr)=>match y with | (r,c,Hs)=>[oVec r c 29 1 false aH Hs,oRws 3 aInt [] Hs m.rows]) 7 [] [7,8,9,10,11,12] 36 [(38,aInt m.cols),(39,aEx (vec r_4 Hs_4.length c_4))] [(3,aEx (.pointer (some ⟨b3_2,0,none⟩))),(4,aEx (.pointer (some ⟨b4_3,0,none⟩))),(8,aEx (vec r_4 Hs_4.length c_4)),(33,aGF f)] mixed rfl (by kernel_rfl) (by kernel_rfl) (by kernel_rfl) (by kernel_rfl) (by kernel_rfl) (by kernel_rfl) (by kernel_rfl) (by kernel_rfl) (by kernel_rfl) (fun _ _ _ _ _ h=>h) rfl rfl (AllPlS.mem ⟨D_U,D_U,trivial⟩) ⟨rfl,rfl,rfl,rfl,trivial⟩ (by kernel_rfl) (fun w=>?_) ?_
  ·refine dw_o rfl (A_D rfl) <|dw_o rfl (A_B runUnderlying107 rfl sizeOf65 (by decide) rfl) <|dw_o rfl (A_K (k:=3) isAgg65 rfl rfl rfl) <|dw_o rfl (F_q (clone_ok m.rows (by omega) (fun x hx=>by have:=(hgm x hx).1;omega)) ⟨A_z rfl (A_y A_h),trivial⟩) <|dw_o rfl (A_B runUnderlying107 rfl sizeOf3 (by decide) rfl) <|dw_o rfl (A_K (k:=3) isAgg3 rfl rfl rfl) <|dw_o rfl (A_D rfl) ?_
   exact ⟨rfl,⟨rfl,rfl,trivial⟩⟩
  rintro ⟨r_5,c_5,Hs_5⟩ h36_5
  show Ent _ ⟨_::_,[_,_,_,_,_,_,_]⟩ _
  have hcl:Hs_5.length=m.rows.length:=h36_5
  have hyl:=(B_G f m.rows (uni m.cols) m.cols.toNat).2
  have hul:=B_R m.cols
  refine B_0 (rs:=[oBox b4_3 107 [aInt 0,aEx (.slice none 0 0)],oBox b3_2 107 [aInt m.cols,aSl 1 false aInts m.rows],oBox b2_1 51 [aInt f.P,aInt f.M,aSl 1 false aInt f.mod]]) [] rfl (G_e f r_5 c_5 Hs_5 m.rows m.cols r_4 c_4 Hs_4 (uni m.cols) m.cols.toNat m.cols.toNat ‹_› hcl (by rw [B_R];exact hun) (.inr (by rw [B_R];omega)) hgm (E_y _) (by omega) (by omega) (by omega) (by omega) (by omega)) rfl rfl (.inl rfl) ⟨A_z rfl (A_y (A_p _)),A_z rfl (D_S (congrArg (fun n=>vec r_5 n c_5) (show Hs_5.length=Hs_5.length by rfl))),A_z rfl (A_y (A_p _)),A_z rfl (D_S (congrArg (fun n=>vec r_4 n c_4) (show Hs_4.length=Hs_4.length by rfl))),trivial⟩ ?_
  rintro ⟨Hn_6,Kn_6,rp_6,cp_6⟩ h40_6
  show Ent _ ⟨_::_,[_,_,_,_,_,_,_,_]⟩ _
  refine C_n 8 [7,6,5,3,2,1,0,4] rfl (by decide) rfl <|emm rfl <|A_A rfl (A_V rfl rfl) <|A_A rfl (A_V rfl rfl) <|emm rfl <|enk K9 <|A_C fun _ K10=>esr rfl fun _ K11=>A_A rfl (B_T rfl runUnderlying29 rfl) <|A_A rfl (A_B runUnderlying107 rfl sizeOf3 (by decide) rfl) <|A_A rfl (A_K (k:=6) isAgg3 rfl rfl rfl) <|A_A rfl (A_m rfl rfl) <|enk K11 ?_
  refine A_H rfl (fun h47=>?_) (fun h47=>?_)
  ·have hqe:invE f m=9:=invE_rank hqk (by rw [htx];exact h47)
   have hq0:invE f m≠0:=by rw [hqe];decide
   refine esr rfl fun _ K12=>A_A rfl (B_y st107 (As:=[aInt 0,aEx (.slice none 0 0)]) z107 (rfl)) <|A_2 (k:=5) sizeOf107 rfl rfl rfl (AllOne.mem ⟨(A_N _),(B_b rfl),trivial⟩) rfl rfl ?_
   show Ent _ ⟨_,[_,_,_,_,_,_,_,_]⟩ _
   refine emm rfl <|enk K12 <|A_R ?_
   exact retR2 (.inr rfl) results133 (C_E (k:=5) ti107 rfl rfl rfl (B_9 ⟨A_b (by rw [G_L hq0];rfl),D_R (fun _=>rfl) (by rw [G_L hq0];rfl),trivial⟩)) (A_L (A_U rfl (A_b (by exact hqe.symm))))
  have hik:invE f m=0:=invE_ok hqk (by rw [htx];exact h47)
  refine esp K10 <|esr rfl fun _ K13=>A_A rfl (A_B runUnderlying107 rfl sizeOf3 (by decide) rfl) <|A_A rfl (A_K (k:=6) isAgg3 rfl rfl rfl) <|emm rfl <|A_A rfl (B_y st107 (As:=[aInt 0,aEx (.slice none 0 0)]) z107 (⟨0,1,rfl,.inl ⟨rfl,_,rfl,(A_N _),rfl,⟨1,1,rfl,.inl ⟨rfl,_,rfl,(B_b rfl),rfl,rfl⟩⟩⟩⟩)) <|A_2 (k:=5) sizeOf107 rfl rfl rfl (AllOne.mem ⟨(A_N _),(B_b rfl),trivial⟩) rfl rfl ?_
  show Ent _ ⟨_,[_,_,_,_,_,_,_,_]⟩ _
  refine emm rfl <|enk K13 <|A_R <|B_q 3 4 rfl rfl (by decide) ?_
  exact retR2 (.inr rfl) results133 (C_E (k:=4) ti107 rfl rfl rfl (B_9 ⟨A_b (by rw [invM_ok hik]),B_g (k:=3) (D_3 rfl) (by simp_all) (by rw [invM_ok hik,htx]),trivial⟩)) (A_L (A_U rfl (A_b (by exact hik.symm))))
 refine A_A rfl (A_X (open_no f [(⟨m.cols,m.rows⟩:Mat)] (by rw [C_5];exact hm0)) rfl) <|emm rfl <|A_A rfl (A_V rfl rfl) <|A_A rfl (A_V rfl rfl) <|emm rfl <|enk K2 <|A_C fun _ K14=>esr rfl fun _ K15=>A_A rfl (B_B rfl rfl) <|enk K15 ?_
 refine A_H rfl (fun h19=>?_) (fun h19=>?_)
 ·have hqe:invE f m=mErr f m:=by rw [invE_no (by rw [sqErr_no hm0];exact hm0),sqErr_no hm0]
  have hq0:invE f m≠0:=by rw [hqe];exact hm0
  refine esr rfl fun _ K16=>A_A rfl (B_y st107 (As:=[aInt 0,aEx (.slice none 0 0)]) z107 (rfl)) <|emm rfl <|A_2 (k:=0) sizeOf107 rfl rfl rfl (AllOne.mem ⟨(A_N _),(B_b rfl),trivial⟩) rfl rfl ?_
  show Ent _ ⟨_,[_,_,_]⟩ _
  refine emm rfl <|enk K16 <|A_R ?_
  exact retR2 (.inr rfl) results133 (C_E (k:=0) ti107 rfl rfl rfl (B_9 ⟨A_b (by rw [G_L hq0];rfl),D_R (fun _=>rfl) (by rw [G_L hq0];rfl),trivial⟩)) (A_L (A_U rfl (A_b (by rw [hqe];exact C_5 f m))))
 exact absurd (n_N h19) (by rw [C_5];exact hm0)
end Go.Proofs.Ytaipghchkamajaa

