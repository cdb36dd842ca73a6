/-
  Walks.
-/
import Derived.Test.YtaipghchkamajaaB2
import Derived.Test.YtaipghchkamajaaR1
open Go Go.Cw
namespace Go.Proofs.Ytaipghchkamajaa
open Try
set_option maxRecDepth 100000
set_option linter.unusedVariables false
set_option linter.unusedSimpArgs false
theorem message_ok (r:Rgn) (l:List Int) (R:RgOk r) (hE:EncF r l):Ctr Try.prog 67 [aRgn r,aSl 1 false aInt l] (aSl 1 false aInts (msgR r l)):=by
 have hd:=hE.d
 have ha:=hE.a
 have hk:=hE.k
 have hk0:=hE.k0
 have hk1:=hE.k1
 have hkk:=hE.kk
 refine B_E Try.call67 func67 rfl rfl ?_
 intro w O
 refine A_l 0 2 rfl rfl fun hlen0_2=>A_l 0 6 rfl rfl fun hlen0_6=>B_D 1 rfl fun hlen1=>esr rfl fun _ K1=>A_w rfl rfl (AllOne.mem ⟨(A_N _),(A_N _),A_j,(A_N _),(A_N _),(A_N _),A_j,trivial⟩) fun b2_1=>emm rfl <|enk K1 <|A_C fun _ K2=>esr rfl fun _ K3=>A_A rfl (A_B runUnderlying53 rfl sizeOf3 (by decide) rfl) <|A_A rfl (A_K (k:=0) isAgg3 rfl rfl rfl) <|A_A rfl (B_W rfl rfl) <|enk K3 ?_
 refine A_H rfl (fun h15=>?_) (fun h15=>?_)
 ·have hq:=hk1 h15
  have htt:=hq.2.2.1
  refine esr rfl fun _ K4=>A_A rfl (A_S (k:=0) ti53 rfl rfl rfl) <|A_A rfl (A_X (G_l r ‹_›) rfl) <|emm rfl <|A_A rfl (A_V rfl rfl) <|A_A rfl (A_V rfl rfl) <|emm rfl <|enk K4 <|esr rfl fun _ K5=>B_0 (rs:=[oBox b2_1 53 [aInt r.F.P,aInt r.F.M,aSl 1 false aInt r.F.mod,aInt r.Kind,aInt r.K,aInt r.D,aSl 1 false aInt r.Points]]) [] rfl (D_9 (rgA r) (rgA r)) rfl rfl (.inl rfl) ⟨A_z rfl (A_y (A_p _)),A_z rfl (A_y (A_p _)),trivial⟩ ?_
  rintro ⟨r_2,c_2,Hs_2⟩ h23_2
  show Ent _ ⟨_::_,[_,_,_]⟩ _
  have hs1:Hs_2.length=(rgA r).toNat:=by have hs0:=h23_2;first | exact hs0 | omega
  refine emm rfl <|B_0 (rs:=[oVec r_2 c_2 29 1 false aH Hs_2,oRws 3 aInt [] Hs_2 (mkM (rgA r) (rgA r) (fun _ _=>0)),oBox b2_1 53 [aInt r.F.P,aInt r.F.M,aSl 1 false aInt r.F.mod,aInt r.Kind,aInt r.K,aInt r.D,aSl 1 false aInt r.Points]]) [] rfl (D_9 (rgA r) (rgA r)) rfl rfl (.inl rfl) ⟨A_z rfl (A_y (A_p _)),A_z rfl (A_y (A_p _)),trivial⟩ ?_
  rintro ⟨r_3,c_3,Hs_3⟩ h26_3
  show Ent _ ⟨_::_,[_,_,_,_,_]⟩ _
  have hs2:Hs_3.length=(rgA r).toNat:=by have hs0:=h26_3;first | exact hs0 | omega
  refine emm rfl <|enk K5 <|esr rfl fun _ K6=>C_n 5 [4,1,0,3,2] rfl (by decide) rfl <|B_0 (rs:=[oVec r_3 c_3 29 1 false aH Hs_3,oRws 3 aInt [] Hs_3 (mkM (rgA r) (rgA r) (fun _ _=>0)),oBox b2_1 53 [aInt r.F.P,aInt r.F.M,aSl 1 false aInt r.F.mod,aInt r.Kind,aInt r.K,aInt r.D,aSl 1 false aInt r.Points]]) [] rfl (E_f r_2 c_2 Hs_2 (rgA r) (rgA r) l (by omega) (by omega) (by omega) hs1 (by omega)) rfl rfl (.inl rfl) ⟨A_z rfl (D_S (congrArg (fun n=>vec r_2 n c_2) (show Hs_2.length=Hs_2.length by rfl))),A_z rfl (A_y (A_p _)),A_z rfl (A_y (A_p _)),trivial⟩ ?_
  rintro ⟨⟩ -
  show Ent _ ⟨_::_,[_,_,_,_,_]⟩ _
  refine C_n 5 [4,1,0,3,2] rfl (by decide) rfl <|B_0 (rs:=[oVec r_2 c_2 29 1 false aH Hs_2,oRws 3 aInt [] Hs_2 (mkM (rgA r) (rgA r) (symE l (rgA r) (rgA r) (rgA r))),oBox b2_1 53 [aInt r.F.P,aInt r.F.M,aSl 1 false aInt r.F.mod,aInt r.Kind,aInt r.K,aInt r.D,aSl 1 false aInt r.Points]]) [] rfl (E_f r_3 c_3 Hs_3 (rgA r) (rgA r) (List.drop (tri (rgA r) (rgA r).toNat).toNat l) (by omega) (by omega) (by omega) hs2 (by grind)) rfl rfl (.inl rfl) ⟨A_z rfl (D_S (congrArg (fun n=>vec r_3 n c_3) (show Hs_3.length=Hs_3.length by rfl))),A_z rfl (A_y (A_p _)),A_z rfl (A_y (A_p _)),trivial⟩ ?_
  rintro ⟨⟩ -
  show Ent _ ⟨_::_,[_,_,_,_,_]⟩ _
  refine enk K6 <|esr rfl fun _ K7=>B_q 2 3 rfl rfl (by decide) <|B_q 0 1 rfl rfl (by decide) <|B_t 0 35 rfl (B_g (k:=0) (B_h rfl) (by simp_all) rfl) <|B_P (k:=0) rfl vt65 rfl rfl (by simp_all) rfl (A_y A_h) (by simp;omega) (by simp;omega) fun r36_5 cr36_5=>emm rfl <|enk K7 <|A_R ?_
  exact retR1 (.inr rfl) results67 (A_L (A_U rfl (B_g (k:=0) (D_3 rfl) rfl (by unfold msgR;rw [i_P h15]))))
 have hq:=hk0 (by omega)
 refine esp K2 <|esr rfl fun _ K8=>A_A rfl (A_B runUnderlying53 rfl sizeOf3 (by decide) rfl) <|A_A rfl (A_K (k:=0) isAgg3 rfl rfl rfl) <|A_A rfl (A_B runUnderlying53 rfl sizeOf3 (by decide) rfl) <|A_A rfl (A_K (k:=0) isAgg3 rfl rfl rfl) <|B_0 (rs:=[oBox b2_1 53 [aInt r.F.P,aInt r.F.M,aSl 1 false aInt r.F.mod,aInt r.Kind,aInt r.K,aInt r.D,aSl 1 false aInt r.Points]]) [] rfl (D_9 r.D r.D) rfl rfl (.inl rfl) ⟨A_z rfl (A_y (A_p _)),A_z rfl (A_y (A_p _)),trivial⟩ ?_
 rintro ⟨r_7,c_7,Hs_7⟩ h41_7
 show Ent _ ⟨_::_,[_,_,_]⟩ _
 have hs3:Hs_7.length=r.D.toNat:=by have hs0:=h41_7;first | exact hs0 | omega
 refine emm rfl <|enk K8 <|esr rfl fun _ K9=>A_A rfl (A_B runUnderlying53 rfl sizeOf3 (by decide) rfl) <|A_A rfl (A_K (k:=2) isAgg3 rfl rfl rfl) <|emm rfl <|B_0 (rs:=[oBox b2_1 53 [aInt r.F.P,aInt r.F.M,aSl 1 false aInt r.F.mod,aInt r.Kind,aInt r.K,aInt r.D,aSl 1 false aInt r.Points]]) [] rfl (E_f r_7 c_7 Hs_7 r.D r.K l (by omega) (by omega) (by omega) hs3 (by omega)) rfl rfl (.inl rfl) ⟨A_z rfl (D_S (congrArg (fun n=>vec r_7 n c_7) (show Hs_7.length=Hs_7.length by rfl))),A_z rfl (A_y (A_p _)),A_z rfl (A_y (A_p _)),trivial⟩ ?_
 rintro ⟨⟩ -
 show Ent _ ⟨_::_,[_,_,_]⟩ _
 refine emm rfl <|enk K9 <|A_C fun _ K10=>esr rfl fun _ K11=>A_A rfl (A_B runUnderlying53 rfl sizeOf3 (by decide) rfl) <|A_A rfl (A_K (k:=2) isAgg3 rfl rfl rfl) <|emm rfl <|enk K11 <|A_I <|A_Y (fun (i:Int)=>(⟨[(2,aEx (.pointer (some ⟨b2_1,0,none⟩))),(9,aEx (vec r_7 Hs_7.length c_7)),(10,aSl 1 false aInt (List.drop (bI r.K r.D i).toNat l)),(48,aInt r.K),(49,aInt i)],[oVec r_7 c_7 29 1 false aH Hs_7,oRws 3 aInt [] Hs_7 (mkM r.D r.D (brE l r.K r.D i r.K)),oBox b2_1 53 [aInt r.F.P,aInt r.F.M,aSl 1 false aInt r.F.mod,aInt r.Kind,aInt r.K,aInt r.D,aSl 1 false aInt r.Points]]⟩:St)) (fun (i:Int)=>(0<=i)/\(i<=r.K)) (fun (i:Int)=>(r.K-i).toNat) 0 ⟨(by omega),(by omega)⟩ (A_J ⟨rfl,rfl,A_Q (F_6 (show List.drop (tri r.K r.K.toNat).toNat l=List.drop (bI r.K r.D (0:Int)).toNat l by rw [bI_zero])),rfl,A_Q (A_k (show 0=(0:Int) by rfl)),trivial⟩ (A_G (rfl) (A_G (A_4 rfl (show mkM r.D r.D (brE l r.K r.D (0:Int) r.K)=mkM r.D r.D (symE l r.K r.K r.K) by exact (brE_zero l r.K r.D).symm)) (rfl)))) ?_
 rintro i ⟨h0,h1⟩
 show Ent _ ⟨_,[_,_,_]⟩ _
 refine esr rfl fun _ K12=>A_A rfl (A_m rfl rfl) <|enk K12 <|A_C fun _ K13=>?_
 refine A_H rfl (fun h50=>?_) (fun h50=>?_)
 ·refine esp K13 <|A_C fun _ K14=>A_I <|esk rfl <|esr rfl fun _ K16=>A_A rfl (A_B runUnderlying53 rfl sizeOf3 (by decide) rfl) <|A_A rfl (A_K (k:=2) isAgg3 rfl rfl rfl) <|emm rfl <|enk K16 <|A_I <|A_Y (fun (j:Int)=>(⟨[(2,aEx (.pointer (some ⟨b2_1,0,none⟩))),(9,aEx (vec r_7 Hs_7.length c_7)),(10,aSl 1 false aInt (List.drop (bI r.K r.D i+(j-r.K)).toNat l)),(11,aInt i),(12,aInt j),(48,aInt r.K),(49,aInt i)],[oVec r_7 c_7 29 1 false aH Hs_7,oRws 3 aInt [] Hs_7 (mkM r.D r.D (brE l r.K r.D i j)),oBox b2_1 53 [aInt r.F.P,aInt r.F.M,aSl 1 false aInt r.F.mod,aInt r.Kind,aInt r.K,aInt r.D,aSl 1 false aInt r.Points]]⟩:St)) (fun (j:Int)=>(r.K<=j)/\(j<=r.D)) (fun (j:Int)=>(r.D-j).toNat) r.K ⟨(by omega),(by omega)⟩ (A_J ⟨rfl,rfl,A_Q (F_6 (show List.drop (bI r.K r.D i).toNat l=List.drop (bI r.K r.D i+(r.K-r.K)).toNat l by rw [show bI r.K r.D i+(r.K-r.K)=bI r.K r.D i by omega])),rfl,rfl,rfl,rfl,trivial⟩ rfl) ?_
  rintro j ⟨j0,j1⟩
  show Ent _ ⟨_,[_,_,_]⟩ _
  refine A_C fun _ K17=>esr rfl fun _ K18=>A_A rfl (A_B runUnderlying53 rfl sizeOf3 (by decide) rfl) <|A_A rfl (A_K (k:=2) isAgg3 rfl rfl rfl) <|A_A rfl (A_m rfl rfl) <|enk K18 ?_
  refine A_H rfl (fun h57=>?_) (fun h57=>?_)
  ·have hj0:0<=j:=by omega
   have ht:=bI_lt (K:=r.K) (D:=r.D) (by omega) (by omega) h0 h50 j0 h57
   have hld:(List.drop (bI r.K r.D i+(j-r.K)).toNat l).length=l.length-(bI r.K r.D i+(j-r.K)).toNat:=l_D
   have hMi:=C_Q (C:=r.D) (brE l r.K r.D i j) h0 (show i<r.D by omega)
   have hMj:=C_Q (C:=r.D) (brE l r.K r.D i j) hj0 (show j<r.D by omega)
   have hML:=A_v r.D r.D (brE l r.K r.D i j)
   have hx:=ix_drop0 (l:=l) (k:=bI r.K r.D i+(j-r.K)) (by omega)
   refine esp K17 <|A_C fun _ K19=>A_I <|A_C fun _ K20=>D_G 16 [5,6,7,9,13,14] mixed (by kernel_rfl) (by kernel_rfl) (by kernel_rfl) (by kernel_rfl) (by kernel_rfl) (fun _ _ _ _ _ h=>h) <|dw_o rfl (A_D rfl) <|dw_o rfl (A_D rfl) <|dw_o rfl (A_8 (k:=0) sl65 rfl rfl rfl rfl) <|dw_o rfl (B_O (k:=0) Hdr.no ti29 rfl rfl) <|dw_o rfl (A_D rfl) <|dw_o rfl (A_D rfl) <|dw_o rfl (A_D rfl) <|dw_o rfl (A_8 (k:=0) sl65 rfl rfl rfl rfl) <|dw_o rfl (B_O (k:=0) Hdr.no ti29 rfl rfl) <|dw_o rfl (A_D rfl) <|dw_o rfl (A_D rfl) <|dw_o rfl (A_W 0 sl29 rfl rfl) <|dw_o rfl (A_P ti3 rfl) <|dw_o rfl (A_D rfl) <|dw_o rfl (A_W 0 sl29 rfl rfl) <|dw_o rfl (A_P ti3 rfl) <|A_9 <|A_A rfl (B_4 (k:=1) sl29 rfl rfl rfl (by omega) (by omega) (by exact List.not_mem_nil)) <|C_W (k:=1) (z:=ix 0 (List.drop (bI r.K r.D i+(j-r.K)).toNat l) 0) ti3 rfl rfl rfl (A_n (A_N _)) (by omega) (by omega) (by omega) (by omega) <|A_A rfl (B_4 (k:=1) sl29 rfl rfl rfl (by omega) (by simp only [l_S,B_M _ _ _ h0 hj0,B_M,l_D,A_v];omega) (by exact List.not_mem_nil) (by omega) (by simp only [l_S,B_M _ _ _ h0 hj0,B_M,l_D,A_v];omega)) <|C_W (k:=1) (z:=ix 0 (List.drop (bI r.K r.D i+(j-r.K)).toNat l) 0) ti3 rfl rfl rfl (A_n (A_N _)) (by omega) (by simp only [l_S,B_M _ _ _ h0 hj0,B_M,l_D,A_v];omega) (by omega) (by simp only [l_S,B_M _ _ _ h0 hj0,B_M,l_D,A_v];omega) <|enk K20 <|A_F <|emm rfl <|A_A rfl (C_F sl29 rfl rfl) ?_
   refine emm rfl <|enk K19 <|A_F <|emm rfl <|A_A rfl (A_g rfl rfl) <|emm rfl <|A_O ?_
   refine A_T (s:=(j)) (j+1) ⟨(by omega),‹_›⟩ (by omega) (A_J ⟨rfl,rfl,A_Q (F_6 (show List.drop (1:Int).toNat (List.drop (bI r.K r.D i+(j-r.K)).toNat l)=List.drop (bI r.K r.D i+((j+1)-r.K)).toNat l by rw [List.drop_drop];congr 1;omega)),rfl,rfl,rfl,rfl,trivial⟩ (A_G (rfl) (A_G (A_4 rfl (show mkM r.D r.D (brE l r.K r.D i (j+1))=List.set (List.set (mkM r.D r.D (brE l r.K r.D i j)) (i).toNat (List.set (ix [] (mkM r.D r.D (brE l r.K r.D i j)) i) (j).toNat (ix 0 (List.drop (bI r.K r.D i+(j-r.K)).toNat l) 0))) (j).toNat (List.set (ix [] (List.set (mkM r.D r.D (brE l r.K r.D i j)) (i).toNat (List.set (ix [] (mkM r.D r.D (brE l r.K r.D i j)) i) (j).toNat (ix 0 (List.drop (bI r.K r.D i+(j-r.K)).toNat l) 0))) j) (i).toNat (ix 0 (List.drop (bI r.K r.D i+(j-r.K)).toNat l) 0)) by exact (brE_step h0 h50 j0 h57 hx).symm)) (rfl))))
  refine A_Z <|A_1 K14 <|A_F <|A_A rfl (A_g rfl rfl) <|emm rfl <|A_O ?_
  refine A_T (s:=(i)) (i+1) ⟨(by omega),‹_›⟩ (by omega) (A_J ⟨rfl,rfl,A_Q (F_6 (show List.drop (bI r.K r.D i+(j-r.K)).toNat l=List.drop (bI r.K r.D (i+1)).toNat l by rw [bI_succ,show j=r.D by omega])),rfl,rfl,trivial⟩ (A_G (rfl) (A_G (A_4 rfl (show mkM r.D r.D (brE l r.K r.D (i+1) r.K)=mkM r.D r.D (brE l r.K r.D i j) by rw [show j=r.D by omega];exact (brE_row l r.K r.D i).symm)) (rfl))))
 refine A_Z <|A_1 K10 <|esk rfl <|A_R <|B_q 0 1 rfl rfl (by decide) ?_
 exact retR1 (.inr rfl) results67 (A_L (A_U rfl (B_g (k:=0) (D_3 rfl) (by simp_all) (by unfold msgR;rw [i_N h15,show i=r.K by omega]))))

theorem Encode_ok (r:Rgn) (l:List Int) (hk1 : -9223372036854775808<=r.K) (hk2:r.K<=9223372036854775807) (hd1 : -9223372036854775808<=r.D) (hd2:r.D<=9223372036854775807):Ctr Try.prog 33 [aRgn r,aSl 1 false aInt l] (aTup [aSl 1 false aInts (encR r l),aInt (encErr r l)]):=by
 refine B_E Try.call33 func33 rfl rfl ?_
 intro w O
 refine A_l 0 2 rfl rfl fun hlen0_2=>A_l 0 6 rfl rfl fun hlen0_6=>B_D 1 rfl fun hlen1=>esr rfl fun _ K1=>A_w rfl rfl (AllOne.mem ⟨(A_N _),(A_N _),A_j,(A_N _),(A_N _),(A_N _),A_j,trivial⟩) fun b2_1=>emm rfl <|enk K1 <|A_C fun _ K2=>esr rfl fun _ K3=>A_A rfl (A_S (k:=0) ti53 rfl rfl rfl) <|A_A rfl (A_X (RgCheck_ok r ‹_› ‹_› ‹_› ‹_›) rfl) <|emm rfl <|enk K3 <|esr rfl fun _ K4=>A_A rfl (B_B rfl rfl) <|enk K4 ?_
 refine A_H rfl (fun h17=>?_) (fun h17=>?_)
 ·have hqe:encErr r l=rgErr r:=encErr_1 h17
  have hq0:encErr r l≠0:=by rw [hqe];exact h17
  refine esk rfl <|A_R ?_
  exact retR2 (.inr rfl) results33 (A_L (A_U rfl (D_R (fun _=>rfl) (by exact (encR_no hq0).symm)))) (A_L (A_U rfl (A_b (by exact hqe.symm))))
 have e0:=n_N h17
 have RO:=C_y.1 e0
 have hlen:=RO.len
 have hF:=RO.fld
 have hS:=hF.1
 have hqf:encErr r l=lenErr r.F l (rgB r):=encErr_l e0
 refine esp K2 <|esr rfl fun _ K6=>A_A rfl (A_B runUnderlying53 rfl sizeOf51 (by decide) rfl) <|A_A rfl (A_S (k:=0) ti51 rfl rfl rfl) <|A_A rfl (A_X (CtrF.ctr (New_ok r.F hF)) rfl) <|emm rfl <|A_A rfl (A_V rfl rfl) <|A_A rfl (A_V rfl rfl) <|emm rfl <|enk K6 <|esr rfl fun _ K7=>A_A rfl (A_S (k:=0) ti53 rfl rfl rfl) <|A_A rfl (A_X (G_l r ‹_›) rfl) <|emm rfl <|A_A rfl (A_V rfl rfl) <|A_A rfl (A_V rfl rfl) <|emm rfl <|enk K7 <|A_C fun _ K8=>esr rfl fun _ K9=>A_A rfl (A_X (elements_ok r.F l (rgB r)) rfl) <|emm rfl <|enk K9 <|esr rfl fun _ K10=>A_A rfl (B_B rfl rfl) <|enk K10 ?_
 refine A_H rfl (fun h35=>?_) (fun h35=>?_)
 ·have hqe:=hqf
  have hq0:encErr r l≠0:=by rw [hqf];exact h35
  refine esk rfl <|A_R ?_
  exact retR2 (.inr rfl) results33 (A_L (A_U rfl (D_R (fun _=>rfl) (by exact (encR_no hq0).symm)))) (A_L (A_U rfl (A_b (by exact hqe.symm))))
 have hz:=n_N h35
 have hqk:encErr r l=0:=by rw [hqf];exact hz
 have hE:=B_8 RO (G_H hz)
 have hdd:=hE.d
 have hlo:¬outF r.F l:=lenErr_out hz
 have hva:=vdm_merr RO
 have hmb:=msg_err RO hE hlo
 have hDl:r.D=((msgR r l).length:Int):=(D_C hE).symm
 refine esp K8 <|A_C fun _ K12=>?_
 refine C_m (T:=107) (z:=.agg #[.int .i64 0,.slice none 0 0]) (As:=[aInt 0,aEx (.slice none 0 0)]) 18 [16] 17 12 [(38,aEx (.pointer (some ⟨b2_1,0,none⟩))),(39,aAgg [aInt r.F.P,aInt r.F.M,aSl 1 false aInt r.F.mod]),(40,aGF r.F),(41,aEx (.pointer (some ⟨b2_1,6,none⟩))),(42,aSl 1 false aInt r.Points),(43,aEx (.pointer (some ⟨b2_1,5,none⟩))),(44,aInt r.D),(45,aMat (⟨r.D,vdm r.F r.Points r.D⟩:Mat)),(46,aInt (rgA r)),(47,aAgg [aInt r.F.P,aInt r.F.M,aSl 1 false aInt r.F.mod,aInt r.Kind,aInt r.K,aInt r.D,aSl 1 false aInt r.Points]),(48,aSl 1 false aInt l),(49,aSl 1 false aInts (msgR r l)),(50,aAgg [aInt (rgA r),aSl 1 false aInts (msgR r l)]),(51,aTup [aMat (mulM r.F (⟨r.D,vdm r.F r.Points r.D⟩:Mat) (⟨rgA r,msgR r l⟩:Mat)),aInt 0]),(37,aTup [aMat (mulM r.F (⟨r.D,vdm r.F r.Points r.D⟩:Mat) (⟨rgA r,msgR r l⟩:Mat)),aInt 0]),(52,aMat (mulM r.F (⟨r.D,vdm r.F r.Points r.D⟩:Mat) (⟨rgA r,msgR r l⟩:Mat))),(53,aInt 0),(12,aBoxF w.heap.size 107 [aInt 0,aEx (.slice none 0 0)])] mixed (by kernel_rfl) (by kernel_rfl) (by kernel_rfl) (by kernel_rfl) (by kernel_rfl) (fun _ _ _ _ _ h=>h) rfl (by kernel_rfl) (by kernel_rfl) (fun _=>by kernel_rfl) (fun _=>by kernel_rfl) (fun _=>by kernel_rfl) zv107 rfl zc107 (by kernel_rfl) ?_ (fun bb_2=>?_)
 ·refine A_c rfl rfl (OpOK.eqv (A_B runUnderlying53 rfl sizeOf51 (by decide) rfl) rfl) <|A_c rfl rfl (OpOK.eqv (A_S (k:=0) ti51 rfl rfl rfl) rfl) <|A_c rfl rfl (OpOK.eqv (A_D rfl) rfl) <|A_c rfl rfl (OpOK.eqv (A_B runUnderlying53 rfl sizeOf29 (by decide) rfl) rfl) <|A_c rfl rfl (OpOK.eqv (A_K (k:=0) isAgg29 rfl rfl rfl) rfl) <|A_c rfl rfl (OpOK.eqv (A_B runUnderlying53 rfl sizeOf3 (by decide) rfl) rfl) <|A_c rfl rfl (OpOK.eqv (A_K (k:=0) isAgg3 rfl rfl rfl) rfl) <|A_c rfl rfl (OpOK.eqv (A_X (E_C r.F r.Points r.D ‹_›) rfl) rfl) <|A_c rfl rfl (OpOK.eqv (A_D rfl) rfl) <|A_c rfl rfl (OpOK.eqv (A_S (k:=0) ti53 rfl rfl rfl) rfl) <|A_c rfl rfl (OpOK.eqv (A_D rfl) rfl) <|A_c rfl rfl (OpOK.eqv (A_X (message_ok r l RO hE) rfl) rfl) <|A_c rfl rfl (OpOK.eqv (B_y st107 (As:=[aInt 0,aEx (.slice none 0 0)]) z107 (⟨0,1,rfl,.inl ⟨rfl,_,rfl,(A_N _),rfl,⟨1,1,rfl,.inl ⟨rfl,_,rfl,A_j,rfl,rfl⟩⟩⟩⟩)) rfl) <|A_c rfl rfl (OpOK.eqv (B_x (mMul_ok r.F (⟨r.D,vdm r.F r.Points r.D⟩:Mat) (⟨rgA r,msgR r l⟩:Mat) ‹_› hva hmb hDl) ⟨A_z rfl (A_y A_h),A_z rfl (A_y A_h),A_z rfl (B_9 ⟨A_b rfl,C_r A_h rfl,trivial⟩),trivial⟩) rfl) <|A_c rfl rfl (OpOK.eqv (A_D rfl) rfl) <|A_c rfl rfl (OpOK.eqv (A_V rfl rfl) rfl) <|A_c rfl rfl (OpOK.eqv (A_V rfl rfl) rfl) <|A_c rfl rfl (OpOK.eqv (C_a (z:=.agg #[.int .i64 0,.slice none 0 0]) [aInt 0,aEx (.slice none 0 0)] zv107 rfl zc107) rfl) ?_
  exact C_C trivial
 refine A_c rfl rfl (OpOK.eqv (A_B runUnderlying53 rfl sizeOf51 (by decide) rfl) rfl) <|A_c rfl rfl (OpOK.eqv (A_S (k:=1) ti51 rfl rfl rfl) rfl) <|A_c rfl rfl (OpOK.eqv (A_D rfl) rfl) <|A_c rfl rfl (OpOK.eqv (A_B runUnderlying53 rfl sizeOf29 (by decide) rfl) rfl) <|A_c rfl rfl (OpOK.eqv (A_K (k:=1) isAgg29 rfl rfl rfl) rfl) <|A_c rfl rfl (OpOK.eqv (A_B runUnderlying53 rfl sizeOf3 (by decide) rfl) rfl) <|A_c rfl rfl (OpOK.eqv (A_K (k:=1) isAgg3 rfl rfl rfl) rfl) <|A_c rfl rfl (OpOK.eqv (A_X (E_C r.F r.Points r.D ‹_›) rfl) rfl) <|A_c rfl rfl (OpOK.eqv (A_D rfl) rfl) <|A_c rfl rfl (OpOK.eqv (A_S (k:=1) ti53 rfl rfl rfl) rfl) <|A_c rfl rfl (OpOK.eqv (A_D rfl) rfl) <|A_c rfl rfl (OpOK.eqv (A_X (message_ok r l RO hE) rfl) rfl) <|A_c rfl rfl (OpOK.eqv (B_y st107 (As:=[aInt 0,aEx (.slice none 0 0)]) z107 (⟨0,1,rfl,.inl ⟨rfl,_,rfl,(A_N _),rfl,⟨1,1,rfl,.inl ⟨rfl,_,rfl,A_j,rfl,rfl⟩⟩⟩⟩)) rfl) <|A_c rfl rfl (OpOK.eqv (B_x (mMul_ok r.F (⟨r.D,vdm r.F r.Points r.D⟩:Mat) (⟨rgA r,msgR r l⟩:Mat) ‹_› hva hmb hDl) ⟨A_z rfl (A_y A_h),A_z rfl (A_y A_h),A_z rfl (B_9 ⟨A_b rfl,C_r A_h rfl,trivial⟩),trivial⟩) rfl) <|A_c rfl rfl (OpOK.eqv (A_D rfl) rfl) <|A_c rfl rfl (OpOK.eqv (A_V rfl rfl) rfl) <|A_c rfl rfl (OpOK.eqv (A_V rfl rfl) rfl) <|A_c rfl rfl (A_D rfl) <|C_C <|A_2 (k:=0) sizeOf107 rfl rfl rfl (AllOne.mem ⟨(A_N _),A_j,trivial⟩) rfl rfl ?_
 show Ent _ ⟨_,[_,_]⟩ _
 refine emm rfl <|enk K12 <|esr rfl fun _ K13=>A_A rfl (A_B runUnderlying107 rfl sizeOf65 (by decide) rfl) <|A_A rfl (A_K (k:=0) isAgg65 rfl rfl rfl) <|emm rfl <|enk K13 <|A_R ?_
 exact retR2 (.inr rfl) results33 (A_L (A_U rfl (C_r F_G (by rw [encR_ok hqk];rfl)))) (A_L (A_U rfl (A_b (by exact hqk.symm))))
end Go.Proofs.Ytaipghchkamajaa

