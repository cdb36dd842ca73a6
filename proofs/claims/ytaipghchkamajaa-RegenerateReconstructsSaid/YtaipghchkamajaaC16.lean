/-
  Walks.
-/
import Derived.Test.YtaipghchkamajaaC14
open Go Go.Cw
namespace Go.Proofs.Ytaipghchkamajaa
open Try
set_option maxRecDepth 100000
set_option linter.unusedVariables false
set_option linter.unusedSimpArgs false
theorem mSolve_ok (f:Fld) (m:Mat) (b:List Int)  : Ctr Try.prog 73 [aFld f,aMat m,aSl 1 false aInt b] (aTup [aSl 1 false aInt (solV f m b),aInt (solE f m b)]):=by
 refine B_E Try.call73 func73 rfl rfl ?_
 intro w O
 refine A_l 0 2 rfl rfl fun hlen0_2=>A_l 1 1 rfl rfl fun hlen1_1=>B_D 2 rfl fun hlen2=>esr rfl fun _ K1=>A_w rfl rfl (AllOne.mem ⟨(A_N _),(A_N _),A_j,trivial⟩) fun b3_1=>A_w rfl rfl (AllOne.mem ⟨(A_N _),A_j,trivial⟩) fun b4_2=>emm rfl <|enk K1 <|esr rfl fun _ K2=>A_A rfl (A_S (k:=1) ti51 rfl rfl rfl) <|A_A rfl (A_S (k:=0) ti107 rfl rfl rfl) <|A_A rfl (C_Z (enc:=aMat) (y:=(⟨m.cols,m.rows⟩:Mat)) vt152 rfl (D_y (AllOne.mem ⟨(A_N _),A_j,trivial⟩))) ?_
 rcases Classical.em (mErr f m=0) with hm0 | hm0
 ·refine A_A rfl (A_X (open_ok f [(⟨m.cols,m.rows⟩:Mat)] (A_i.1 hm0).1 (by intro q hq;simp only [List.mem_cons,List.not_mem_nil,or_false] at hq;subst hq;exact (A_i.1 hm0).2) (by simp)) rfl) <|emm rfl <|A_A rfl (A_V rfl rfl) <|A_A rfl (A_V rfl rfl) <|emm rfl <|enk K2 <|A_C fun _ K3=>esr rfl fun _ K4=>A_A rfl (B_B rfl rfl) <|enk K4 <|C_4 rfl (by decide) <|esp K3 <|A_C fun _ K5=>A_C fun _ K6=>?_
  have hF:=(A_i.1 hm0).1
  have hme:=(A_i.1 hm0).2
  have hsz:=C_N hme
  have hgm:=C_O hme
  refine A_F <|emm rfl <|A_A rfl (A_5 rfl runUnderlying29 rfl) <|A_A rfl (A_B runUnderlying107 rfl sizeOf65 (by decide) rfl) <|A_A rfl (A_K (k:=0) isAgg65 rfl rfl rfl) <|A_A rfl (A_5 rfl runUnderlying65 rfl) <|A_A rfl (B_B rfl rfl) <|enk K6 ?_
  refine A_H rfl (fun h35=>?_) (fun h35=>?_)
  ·have hse:solE f m b=3:=by rw [solE_no (by rw [G_B hm0,vecErr_len h35];decide),G_B hm0];exact vecErr_len h35
   have hs0:solE f m b≠0:=by rw [hse];decide
   refine esk rfl <|A_R ?_
   exact retR2 (.inr rfl) results73 (A_L (A_U rfl (D_R (fun _=>rfl) (by exact (solV_no hs0).symm)))) (A_L (A_U rfl (A_b (by exact hse.symm))))
  have hvn:sErr f m b=entErr f b:=by rw [G_B hm0];exact vecErr_ent h35
  refine esp K5 <|A_C fun _ K8=>esr rfl fun _ K9=>A_A rfl (A_X (entries_ok f b) rfl) <|emm rfl <|enk K9 <|esr rfl fun _ K10=>A_A rfl (B_B rfl rfl) <|enk K10 ?_
  refine A_H rfl (fun h40=>?_) (fun h40=>?_)
  ·have hse:solE f m b=entErr f b:=by rw [solE_no (by rw [hvn];exact h40),hvn]
   have hs0:solE f m b≠0:=by rw [hse];exact h40
   refine esk rfl <|A_R ?_
   exact retR2 (.inr rfl) results73 (A_L (A_U rfl (D_R (fun _=>rfl) (by exact (solV_no hs0).symm)))) (A_L (A_U rfl (A_b (by exact hse.symm))))
  have hs1:sErr f m b=0:=by rw [hvn];exact n_N h40
  have hbo:=C_g.1 (n_N h40)
  have hag:=D_z hF.1 hgm hbo
  refine esp K8 <|esr rfl fun _ K12=>A_A rfl (A_B runUnderlying107 rfl sizeOf65 (by decide) rfl) <|A_A rfl (A_K (k:=0) isAgg65 rfl rfl rfl) <|B_0 (rs:=[oBox b4_2 107 [aInt m.cols,aSl 1 false aInts m.rows],oBox b3_1 51 [aInt f.P,aInt f.M,aSl 1 false aInt f.mod]]) [] rfl (clone_ok m.rows (by omega) (fun x hx=>by have:=(hgm x hx).1;omega)) rfl rfl (.inl rfl) ⟨A_z rfl (A_y (A_p _)),trivial⟩ ?_
  rintro ⟨r_3,c_3,Hs_3⟩ h44_3
  show Ent _ ⟨_::_,[_,_,_,_]⟩ _
  have hcl:Hs_3.length=m.rows.length:=h44_3
  refine emm rfl <|enk K12 <|A_C fun _ K13=>esr rfl fun _ K14=>A_A rfl (B_T rfl runUnderlying65 rfl) <|emm rfl <|enk K14 <|A_I <|A_Y (fun (ss:Int×List Hdr)=>match ss with | (i,Hs)=>(⟨[(2,aSl 1 false aInt b),(4,aEx (.pointer (some ⟨b4_2,0,none⟩))),(8,aGF f),(11,aEx (vec r_3 Hs_3.length c_3)),(46,aInt (↑Hs_3.length:Int)),(47,aInt i)],[oVec r_3 c_3 29 1 false aH Hs,oRws 3 aInt [] Hs (mixG (augL m.rows b) m.rows i),oBox b4_2 107 [aInt m.cols,aSl 1 false aInts m.rows],oBox b3_1 51 [aInt f.P,aInt f.M,aSl 1 false aInt f.mod]]⟩:St)) (fun (ss:Int×List Hdr)=>match ss with | (i,Hs)=>(0<=i)/\(i<=m.rows.length)/\(Hs.length=m.rows.length)) (fun (ss:Int×List Hdr)=>match ss with | (i,Hs)=>(m.rows.length-i).toNat) (0,Hs_3) ⟨(by omega),(by omega),hcl⟩ (A_J ⟨rfl,rfl,rfl,rfl,rfl,A_Q (A_k (show 0=(0:Int) by rfl)),trivial⟩ (A_G (rfl) (A_G (A_4 rfl (show mixG (augL m.rows b) m.rows (0:Int)=m.rows by exact E_G _ _)) (rfl)))) ?_
  rintro ⟨i,Hs⟩ ⟨h0,h1,hH⟩
  show Ent _ ⟨_,[_,_,_,_]⟩ _
  have lm:(mixG (augL m.rows b) m.rows i).length=m.rows.length:=by rw [D_D _ _ (B_K _ _) h0 (by rw [B_K];omega),B_K]
  refine esr rfl fun _ K15=>A_A rfl (A_m rfl rfl) <|enk K15 <|A_C fun _ K16=>?_
  refine A_H rfl (fun h48=>?_) (fun h48=>?_)
  ·have hmi:=ix_mixG [] (augL m.rows b) m.rows h0 (by rw [B_K];omega) (B_K _ _)
   have hri:=F_J hme h0 (by omega)
   rw [<- hmi] at hri
   refine esp K16 <|A_C fun _ K17=>A_I <|esk rfl <|D_G 11 [0,1] mixed (by kernel_rfl) (by kernel_rfl) (by kernel_rfl) (by kernel_rfl) (by kernel_rfl) (fun _ _ _ _ _ h=>h) <|dw_o rfl (A_D rfl) <|dw_o rfl (A_D rfl) <|dw_o rfl (A_D rfl) <|dw_o rfl (A_D rfl) <|dw_o rfl (A_8 (k:=0) sl65 rfl rfl (by simp_all) rfl) <|dw_o rfl (B_O (k:=0) Hdr.no ti29 rfl rfl) <|dw_o rfl (A_D rfl) <|dw_o rfl (A_D rfl) <|dw_o rfl (A_W 0 sl29 rfl rfl) <|dw_o rfl (A_P ti3 rfl) <|dw_o rfl (C_Z (enc:=aInt) (y:=ix 0 b i) vt29 rfl (A_n (A_N _))) <|A_9 <|C_v 1 i rfl (by omega) (by omega) (by exact List.not_mem_nil) fun hn55=>B_P (k:=0) rfl vt29 rfl rfl ‹_› rfl (A_y A_h) (by simp only [l_A,List.length_cons,List.length_nil];omega) (by simp only [l_A,List.length_cons,List.length_nil];omega) fun r61_4 cr61_4=>A_A rfl (A_8 (k:=1) sl65 rfl rfl (by simp_all) rfl) <|C_L (k:=1) (z:=⟨r61_4,((ix [] (mixG (augL m.rows b) m.rows i) i)++[ix 0 b i]).length,cr61_4⟩) ti29 rfl rfl rfl (A_n (B_b rfl)) (by omega) (by omega) <|D_e 2 0 i (m:=((ix [] (mixG (augL m.rows b) m.rows i) i)++[ix 0 b i]).length) [] rfl rfl (by decide) (by simp) rfl <|enk K17 <|A_F <|A_A rfl (A_g rfl rfl) <|emm rfl <|A_O ?_
   refine A_T (s:=(i,Hs)) (i+1,List.set Hs (i).toNat (⟨r61_4,((ix [] (mixG (augL m.rows b) m.rows i) i)++[ix 0 b i]).length,cr61_4⟩)) ⟨(by omega),(by omega),(by simp only [l_S];exact hH)⟩ (by dsimp only;omega) (A_J ⟨rfl,rfl,rfl,rfl,rfl,rfl,trivial⟩ (A_G (rfl) (A_G (A_4 (show (List.set Hs (i).toNat (⟨r61_4,((ix [] (mixG (augL m.rows b) m.rows i) i)++[ix 0 b i]).length,cr61_4⟩))=List.set Hs (i).toNat ⟨r61_4,((ix [] (mixG (augL m.rows b) m.rows i) i)++[ix 0 b i]).length,cr61_4⟩ by rfl) (show mixG (augL m.rows b) m.rows (i+1)=List.set (mixG (augL m.rows b) m.rows i) (i).toNat ((ix [] (mixG (augL m.rows b) m.rows i) i)++[ix 0 b i]) by rw [hmi,F_s [] (augL m.rows b) m.rows h0 (by rw [B_K];omega) (B_K _ _),ix_augL h0 (by omega)])) (rfl))))
  have him:mixG (augL m.rows b) m.rows i=augL m.rows b:=G_q _ _ (by rw [B_K];omega) (B_K _ _)
  have hpl:=C_p f (augL m.rows b) [] m.cols.toNat
  have hel:=(B_G f (augL m.rows b) [] m.cols.toNat).1
  have hlg:=B_K m.rows b
  have hge:=B_7 hF.1 (Y:=[]) hag m.cols.toNat
  have hdl:(List.drop ((((elim f (augL m.rows b) [] m.cols.toNat).piv.length:Nat):Int)).toNat (elim f (augL m.rows b) [] m.cols.toNat).X).length=(elim f (augL m.rows b) [] m.cols.toNat).X.length-(elim f (augL m.rows b) [] m.cols.toNat).piv.length:=by rw [l_D];rfl
  refine A_Z <|A_1 K13 <|A_C fun _ K19=>?_
  rw [him]
  refine A_F <|emm rfl <|A_A rfl (A_B runUnderlying107 rfl sizeOf3 (by decide) rfl) <|A_A rfl (A_K (k:=2) isAgg3 rfl rfl rfl) <|B_U 29 1 false aH (fun _=>rfl) <|ent_rows0 3 aInt <|C_n 6 [5,4,0,1,3,2] rfl (by decide) rfl <|B_0 (rs:=[oBox b4_2 107 [aInt m.cols,aSl 1 false aInts m.rows],oBox b3_1 51 [aInt f.P,aInt f.M,aSl 1 false aInt f.mod]]) [] rfl (G_e f r_3 c_3 Hs (augL m.rows b) m.cols none 0 [] [] (m.cols.toNat+1) 0 ‹_› (by rw [B_K];omega) rfl (.inl rfl) hag (C_X 0) (by omega) (by omega) (by omega) (by omega) (by rw [B_K];omega)) rfl rfl (.inl rfl) ⟨A_z rfl (A_y (A_p _)),A_z rfl (D_S (congrArg (fun n=>vec r_3 n c_3) (show Hs_3.length=Hs.length by omega))),A_z rfl (A_y (A_p _)),A_z rfl (D_S (congrArg (fun n=>vec none n 0) (show 0 = [].length by rfl))),trivial⟩ ?_
  rintro ⟨Hn_7,Kn_7,rp_7,cp_7⟩ h69_7
  show Ent _ ⟨_::_,[_,_,_,_,_,_,_]⟩ _
  refine C_n 7 [6,5,1,0,2,3,4] rfl (by decide) rfl <|emm rfl <|A_A rfl (A_V rfl rfl) <|A_A rfl (A_V rfl rfl) <|emm rfl <|enk K19 <|A_C fun _ K20=>A_C fun _ K21=>B_q 3 4 rfl rfl (by decide) <|B_t 3 11 rfl (B_g (k:=3) (B_h rfl) (by simp_all) rfl) <|A_F <|emm rfl <|A_A rfl (B_T rfl runUnderlying29 rfl) <|A_A rfl (C_F sl65 rfl rfl) <|A_A rfl (A_5 rfl runUnderlying65 rfl) <|emm rfl <|enk K21 <|A_I <|A_Y (fun (i:Int)=>(⟨[(4,aEx (.pointer (some ⟨b4_2,0,none⟩))),(11,aSl 1 false aInts ((elim f (augL m.rows b) [] m.cols.toNat).X)),(13,aEx (vec rp_7 (((elim f (augL m.rows b) [] m.cols.toNat).piv).length) cp_7)),(75,aSl 1 false aInts (List.drop ((↑(((elim f (augL m.rows b) [] m.cols.toNat).piv).length):Int)).toNat ((elim f (augL m.rows b) [] m.cols.toNat).X))),(76,aInt (↑(List.drop ((↑(((elim f (augL m.rows b) [] m.cols.toNat).piv).length):Int)).toNat ((elim f (augL m.rows b) [] m.cols.toNat).X)).length:Int)),(77,aInt i)],[oVec rp_7 cp_7 3 1 false aInt ((elim f (augL m.rows b) [] m.cols.toNat).piv),oRws 3 aInt [] Kn_7 ((elim f (augL m.rows b) [] m.cols.toNat).Y),oVec none 0 29 1 false aH Kn_7,oBox b4_2 107 [aInt m.cols,aSl 1 false aInts m.rows],oBox b3_1 51 [aInt f.P,aInt f.M,aSl 1 false aInt f.mod]]⟩:St)) (fun (i:Int)=>(0<=i)/\(i<=(List.drop ((((elim f (augL m.rows b) [] m.cols.toNat).piv.length:Nat):Int)).toNat (elim f (augL m.rows b) [] m.cols.toNat).X).length)/\(∀l∈(List.drop ((((elim f (augL m.rows b) [] m.cols.toNat).piv.length:Nat):Int)).toNat (elim f (augL m.rows b) [] m.cols.toNat).X).take i.toNat,ix 0 l m.cols=0)) (fun (i:Int)=>((List.drop ((((elim f (augL m.rows b) [] m.cols.toNat).piv.length:Nat):Int)).toNat (elim f (augL m.rows b) [] m.cols.toNat).X).length-i).toNat) 0 ⟨(by omega),(by omega),(by simp)⟩ (A_J ⟨rfl,rfl,rfl,rfl,rfl,A_Q (A_k (show 0=(0:Int) by rfl)),trivial⟩ rfl) ?_
  rintro i ⟨j0,j1,hz⟩
  show Ent _ ⟨_,[_,_,_,_,_]⟩ _
  refine esr rfl fun _ K22=>A_A rfl (A_m rfl rfl) <|enk K22 <|A_C fun _ K23=>?_
  refine A_H rfl (fun h78=>?_) (fun h78=>?_)
  ·have hrw:(ix [] (List.drop ((((elim f (augL m.rows b) [] m.cols.toNat).piv.length:Nat):Int)).toNat (elim f (augL m.rows b) [] m.cols.toNat).X) i).length=m.cols.toNat+1:=(hge _ (List.mem_of_mem_drop (B_i [] _ j0 h78))).1
   refine esp K23 <|A_C fun _ K24=>A_I <|esr rfl fun _ K25=>A_A rfl (A_W [] sl65 rfl rfl) <|A_A rfl (A_P ti29 rfl) <|emm rfl <|enk K25 <|esr rfl fun _ K26=>A_A rfl (A_B runUnderlying107 rfl sizeOf3 (by decide) rfl) <|A_A rfl (A_K (k:=3) isAgg3 rfl rfl rfl) <|A_A rfl (A_W 0 sl29 rfl rfl) <|A_A rfl (A_P ti3 rfl) <|A_A rfl (B_B rfl rfl) <|enk K26 ?_
   refine A_H rfl (fun h86=>?_) (fun h86=>?_)
   ·have hso:solE f m b=11:=solE_off hs1 ⟨_,B_i [] _ j0 h78,h86⟩
    have hs0:solE f m b≠0:=by rw [hso];decide
    refine esk rfl <|A_R ?_
    exact retR2 (.inr rfl) results73 (A_L (A_U rfl (D_R (fun _=>rfl) (by exact (solV_no hs0).symm)))) (A_L (A_U rfl (A_b (by exact hso.symm))))
   refine esp K24 <|A_F <|A_A rfl (A_g rfl rfl) <|emm rfl <|A_O ?_
   refine A_T (s:=(i)) (i+1) ⟨(by omega),‹_›,(D_V [] j0 h78 hz (n_N h86))⟩ (by omega) (A_J ⟨rfl,rfl,rfl,rfl,rfl,rfl,trivial⟩ rfl)
  have hsk:solE f m b=0:=solE_ok hs1 (fun ⟨l,hl,hn⟩=>hn (by rw [t_L (by omega)] at hz;exact hz l hl))
  refine A_Z <|A_1 K20 <|esr rfl fun _ K28=>A_A rfl (A_B runUnderlying107 rfl sizeOf3 (by decide) rfl) <|A_A rfl (A_K (k:=3) isAgg3 rfl rfl rfl) <|B_1 aInt 0 rfl vt29 rfl rfl (by omega) (by omega) (by omega) (fun _ _=>rfl) (AllV.mem ⟨rfl,trivial⟩) fun b90_8=>emm rfl <|enk K28 <|A_C fun _ K29=>esr rfl fun _ K30=>A_A rfl (B_T rfl runUnderlying29 rfl) <|emm rfl <|enk K30 <|A_I <|A_Y (fun (i:Int)=>(⟨[(4,aEx (.pointer (some ⟨b4_2,0,none⟩))),(11,aSl 1 false aInts ((elim f (augL m.rows b) [] m.cols.toNat).X)),(17,aEx (vec (some b90_8) ((m.cols).toNat) ((m.cols).toNat))),(91,aEx (vec rp_7 (((elim f (augL m.rows b) [] m.cols.toNat).piv).length) cp_7)),(92,aInt (↑(((elim f (augL m.rows b) [] m.cols.toNat).piv).length):Int)),(93,aInt i)],[oVec (some b90_8) ((m.cols).toNat) 3 1 false aInt (solTo (elim f (augL m.rows b) [] m.cols.toNat) m.cols i.toNat),oVec rp_7 cp_7 3 1 false aInt ((elim f (augL m.rows b) [] m.cols.toNat).piv),oRws 3 aInt [] Kn_7 ((elim f (augL m.rows b) [] m.cols.toNat).Y),oVec none 0 29 1 false aH Kn_7,oBox b4_2 107 [aInt m.cols,aSl 1 false aInts m.rows],oBox b3_1 51 [aInt f.P,aInt f.M,aSl 1 false aInt f.mod]]⟩:St)) (fun (i:Int)=>(0<=i)/\(i<=(elim f (augL m.rows b) [] m.cols.toNat).piv.length)) (fun (i:Int)=>((elim f (augL m.rows b) [] m.cols.toNat).piv.length-i).toNat) 0 ⟨(by omega),(by omega)⟩ (A_J ⟨rfl,rfl,rfl,rfl,rfl,A_Q (A_k (show 0=(0:Int) by rfl)),trivial⟩ (A_G (A_e (show solTo (elim f (augL m.rows b) [] m.cols.toNat) m.cols (0:Int).toNat=List.replicate ((m.cols).toNat) 0 by rfl)) (rfl))) ?_
  rintro i ⟨k0,k1⟩
  show Ent _ ⟨_,[_,_,_,_,_,_]⟩ _
  have lsl:=C_c (elim f (augL m.rows b) [] m.cols.toNat) m.cols i.toNat
  refine esr rfl fun _ K31=>A_A rfl (A_m rfl rfl) <|enk K31 <|A_C fun _ K32=>?_
  refine A_H rfl (fun h94=>?_) (fun h94=>?_)
  ·have hpi:=piv_ix f (augL m.rows b) [] m.cols.toNat k0 h94
   have hrw:=B_p (B_v hge) k0 (by omega)
   refine esp K32 <|A_C fun _ K33=>A_I <|esr rfl fun _ K34=>A_A rfl (A_8 (k:=1) sl29 rfl rfl rfl rfl) <|A_A rfl (B_O (k:=1) 0 ti3 rfl rfl) <|emm rfl <|enk K34 <|A_u 11 mixed (by kernel_rfl) (by kernel_rfl) (by kernel_rfl) <|dw_o rfl (A_D rfl) <|dw_o rfl (A_D rfl) <|dw_o rfl (A_D rfl) <|dw_o rfl (A_D rfl) <|dw_o rfl (A_W [] sl65 rfl rfl) <|dw_o rfl (A_P ti29 rfl) <|dw_o rfl (A_B runUnderlying107 rfl sizeOf3 (by decide) rfl) <|dw_o rfl (A_K (k:=4) isAgg3 rfl rfl rfl) <|dw_o rfl (A_W 0 sl29 rfl rfl) <|dw_o rfl (A_P ti3 rfl) <|dw_o rfl (A_s sl29 rfl rfl) <|A_9 <|B_C (k:=0) (z:=ix 0 (ix [] ((elim f (augL m.rows b) [] m.cols.toNat).X) i) m.cols) ti3 rfl rfl rfl (A_n (A_N _)) (by omega) (by omega) <|enk K33 <|A_F <|A_A rfl (A_g rfl rfl) <|emm rfl <|A_O ?_
   refine A_T (s:=(i)) (i+1) ⟨(by omega),‹_›⟩ (by omega) (A_J ⟨rfl,rfl,rfl,rfl,rfl,rfl,trivial⟩ (A_G (A_e (show solTo (elim f (augL m.rows b) [] m.cols.toNat) m.cols (i+1).toNat=List.set (solTo (elim f (augL m.rows b) [] m.cols.toNat) m.cols i.toNat) (ix 0 ((elim f (augL m.rows b) [] m.cols.toNat).piv) i).toNat (ix 0 (ix [] ((elim f (augL m.rows b) [] m.cols.toNat).X) i) m.cols) by exact solTo_succ _ _ k0)) (rfl)))
  refine A_Z <|A_1 K29 <|esk rfl <|A_R ?_
  exact retR2 (.inr rfl) results73 (A_L (A_U rfl (B_g (k:=0) (D_3 rfl) (by simp) (by rw [solV_ok hsk];unfold solX;congr 1;omega)))) (A_L (A_U rfl (A_b (by exact hsk.symm))))
 refine A_A rfl (A_X (open_no f [(⟨m.cols,m.rows⟩:Mat)] (by rw [C_5];exact hm0)) rfl) <|emm rfl <|A_A rfl (A_V rfl rfl) <|A_A rfl (A_V rfl rfl) <|emm rfl <|enk K2 <|A_C fun _ K36=>esr rfl fun _ K37=>A_A rfl (B_B rfl rfl) <|enk K37 ?_
 refine A_H rfl (fun h28=>?_) (fun h28=>?_)
 ·have hse:solE f m b=mErr f m:=by rw [solE_no (by rw [sErr_no hm0];exact hm0),sErr_no hm0]
  have hs0:solE f m b≠0:=by rw [hse];exact hm0
  refine esk rfl <|A_R ?_
  exact retR2 (.inr rfl) results73 (A_L (A_U rfl (D_R (fun _=>rfl) (by exact (solV_no hs0).symm)))) (A_L (A_U rfl (A_b (by rw [hse];exact C_5 f m))))
 exact absurd (n_N h28) (by rw [C_5];exact hm0)
end Go.Proofs.Ytaipghchkamajaa

