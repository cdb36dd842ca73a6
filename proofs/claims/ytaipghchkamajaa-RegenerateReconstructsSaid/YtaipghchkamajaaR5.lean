/-
  Walks.
-/
import Derived.Test.YtaipghchkamajaaR3
open Go Go.Cw
namespace Go.Proofs.Ytaipghchkamajaa
open Try
set_option maxRecDepth 100000
set_option linter.unusedVariables false
set_option linter.unusedSimpArgs false
theorem rsym_ok (n:Int) (l:List Int) (hn0:0<=n) (hn1:n<=1000) (hl:tri n n.toNat<=l.length):CtrW Try.prog 98 [] [aInt n,aSl 1 false aInt l] (fun (y:Option Nat×Nat×List Hdr)=>match y with | (ro,co,Hs)=>Hs.length=n.toNat) (fun (y:Option Nat×Nat×List Hdr)=>match y with | (ro,co,Hs)=>aEx (vec ro Hs.length co)) (fun (y:Option Nat×Nat×List Hdr)=>match y with | (ro,co,Hs)=>[oVec ro co 29 1 false aH Hs,oRws 3 aInt [] Hs (mkM n n (symE l n n n))]):=by
 refine D_I Try.call98 func98 rfl rfl ?_
 intro w O
 refine B_D 1 rfl fun hlen1=>esk rfl <|esk rfl <|A_C fun _ K3=>esk rfl <|A_I <|B_U 29 1 false aH (fun _=>rfl) <|ent_rows0 3 aInt <|A_Y (fun (ss:Int×List Hdr×Option Nat×Nat)=>match ss with | (k,Hs,rr2,cc2)=>(⟨[(0,aInt n),(1,aSl 1 false aInt l),(5,aEx (vec rr2 ((Hs).length) cc2)),(6,aInt k)],[oRws 3 aInt [] Hs (List.replicate k.toNat (List.replicate n.toNat (0:Int))),oVec rr2 cc2 29 1 false aH Hs]⟩:St)) (fun (ss:Int×List Hdr×Option Nat×Nat)=>match ss with | (k,Hs,rr2,cc2)=>(0<=k)/\(k<=n)/\((Hs.length:Int)=k)) (fun (ss:Int×List Hdr×Option Nat×Nat)=>match ss with | (k,Hs,rr2,cc2)=>(n-k).toNat) (0,[],none,0) ⟨(by omega),‹_›,rfl⟩ (A_J ⟨rfl,rfl,A_Q ((show aEx (vec none ([]:List _).length 0)=aEx (vec none (([]).length) 0) from B_J (congrArg List.length (show [] = [] by rfl).symm))),A_Q (A_k (show 0=(0:Int) by rfl)),trivial⟩ (A_G (A_4 rfl (show List.replicate (0:Int).toNat (List.replicate n.toNat (0:Int)) = [] by rfl)) (rfl))) ?_
 rintro ⟨k,Hs,rr2,cc2⟩ ⟨q0,q1,hH⟩
 show Ent _ ⟨_,[_,_]⟩ _
 refine A_C fun _ K5=>esr rfl fun _ K6=>A_A rfl (A_m rfl rfl) <|enk K6 ?_
 refine A_H rfl (fun h12=>?_) (fun h12=>?_)
 ·refine esp K5 <|A_C fun _ K7=>A_I <|A_F <|emm rfl <|B_1 aInt 0 rfl vt29 rfl rfl (by omega) (by omega) (by omega) (fun _ _=>rfl) (AllV.mem ⟨rfl,trivial⟩) fun b17_3=>B_Q (k:=2) (enc:=aH) (y:=⟨(some b17_3),(n).toNat,(n).toNat⟩) rfl rfl vt65 rfl rfl rfl rfl ((A_n (B_b rfl))) (by omega) (by omega) (by decide) fun b19_4 c19_4=>ent_pushRow 1 0 (m:=(n).toNat) rfl rfl (by decide) (by simp) <|emm rfl <|enk K7 <|A_F <|emm rfl <|A_A rfl (A_g rfl rfl) <|emm rfl <|A_O ?_
  refine A_T (s:=(k,Hs,rr2,cc2)) (k+1,Hs++[⟨(some b17_3),(n).toNat,(n).toNat⟩],(some b19_4),c19_4) ⟨(by omega),‹_›,(by simp;omega)⟩ (by dsimp only;omega) (A_J ⟨rfl,rfl,A_Q (B_J (congrArg List.length (show (Hs++[⟨(some b17_3),(n).toNat,(n).toNat⟩])=Hs++[⟨(some b17_3),(n).toNat,(n).toNat⟩] by rfl).symm)),rfl,trivial⟩ (A_G (A_4 (show (Hs++[⟨(some b17_3),(n).toNat,(n).toNat⟩])=Hs++[⟨(some b17_3),(n).toNat,(n).toNat⟩] by rfl) (show List.replicate (k+1).toNat (List.replicate n.toNat (0:Int))=(List.replicate k.toNat (List.replicate n.toNat (0:Int)))++[List.replicate ((n).toNat) 0] by rw [show (k+1).toNat=k.toNat+1 by omega,List.replicate_succ'])) (rfl)))
 have hHn:Hs.length=n.toNat:=by omega
 refine A_Z <|A_1 K3 <|esk rfl <|A_C fun _ K9=>esk rfl <|A_I <|A_Y (fun (i:Int)=>(⟨[(0,aInt n),(1,aSl 1 false aInt l),(5,aEx (vec rr2 ((Hs).length) cc2)),(7,aInt (tri n i.toNat)),(8,aInt i)],[oRws 3 aInt [] Hs (mkM n n (symE l n i i)),oVec rr2 cc2 29 1 false aH Hs]⟩:St)) (fun (i:Int)=>(0<=i)/\(i<=n)) (fun (i:Int)=>(n-i).toNat) 0 ⟨(by omega),‹_›⟩ (A_J ⟨rfl,rfl,rfl,A_Q (A_k (show 0=tri n (0:Int).toNat by rfl)),A_Q (A_k (show 0=(0:Int) by rfl)),trivial⟩ (A_G (A_4 rfl (show mkM n n (symE l n (0:Int) (0:Int))=List.replicate k.toNat (List.replicate n.toNat (0:Int)) by rw [show k=n by omega,mkM_zero];exact (symE_zero n l n).symm)) (rfl))) ?_
 rintro i ⟨h0,h1⟩
 show Ent _ ⟨_,[_,_]⟩ _
 refine A_C fun _ K11=>esr rfl fun _ K12=>A_A rfl (A_m rfl rfl) <|enk K12 ?_
 refine A_H rfl (fun h22=>?_) (fun h22=>?_)
 ·refine esp K11 <|A_C fun _ K13=>A_I <|esk rfl <|A_I <|A_Y (fun (j:Int)=>(⟨[(0,aInt n),(1,aSl 1 false aInt l),(5,aEx (vec rr2 ((Hs).length) cc2)),(7,aInt (tri n i.toNat+(j-i))),(8,aInt i),(9,aInt j)],[oRws 3 aInt [] Hs (mkM n n (symE l n i j)),oVec rr2 cc2 29 1 false aH Hs]⟩:St)) (fun (j:Int)=>(i<=j)/\(j<=n)) (fun (j:Int)=>(n-j).toNat) i ⟨(by omega),‹_›⟩ (A_J ⟨rfl,rfl,rfl,A_Q (A_k (show tri n i.toNat=tri n i.toNat+(i-i) by omega)),rfl,rfl,trivial⟩ rfl) ?_
  rintro j ⟨j0,j1⟩
  show Ent _ ⟨_,[_,_]⟩ _
  refine A_C fun _ K15=>esr rfl fun _ K16=>A_A rfl (A_m rfl rfl) <|enk K16 ?_
  refine A_H rfl (fun h28=>?_) (fun h28=>?_)
  ·have hj0:0<=j:=by omega
   have ht:=tri_lt h0 j0 h28
   have hMi:=C_Q (C:=n) (symE l n i j) h0 (show i<n by omega)
   have hMj:=C_Q (C:=n) (symE l n i j) hj0 (show j<n by omega)
   have hML:=A_v n n (symE l n i j)
   refine esp K15 <|A_C fun _ K17=>A_I <|A_C fun _ K18=>A_u 10 mixed (by kernel_rfl) (by kernel_rfl) (by kernel_rfl) <|dw_o rfl (A_D rfl) <|dw_o rfl (A_D rfl) <|dw_o rfl (A_8 (k:=1) sl65 rfl rfl rfl rfl) <|dw_o rfl (B_O (k:=1) Hdr.no ti29 rfl rfl) <|dw_o rfl (A_D rfl) <|dw_o rfl (A_D rfl) <|dw_o rfl (A_D rfl) <|dw_o rfl (A_W 0 sl29 rfl rfl) <|dw_o rfl (A_P ti3 rfl) <|dw_o rfl (B_4 (k:=0) sl29 rfl rfl rfl (by omega) (by omega) (by exact List.not_mem_nil)) <|A_9 <|C_W (k:=0) (z:=ix 0 l (tri n i.toNat+(j-i))) ti3 rfl rfl rfl (A_n (A_N _)) (by omega) (by omega) (by omega) (by omega) <|enk K18 <|A_C fun _ K19=>A_u 10 mixed (by kernel_rfl) (by kernel_rfl) (by kernel_rfl) <|dw_o rfl (A_D rfl) <|dw_o rfl (A_D rfl) <|dw_o rfl (A_8 (k:=1) sl65 rfl rfl rfl rfl) <|dw_o rfl (B_O (k:=1) Hdr.no ti29 rfl rfl) <|dw_o rfl (A_D rfl) <|dw_o rfl (A_D rfl) <|dw_o rfl (A_D rfl) <|dw_o rfl (A_W 0 sl29 rfl rfl) <|dw_o rfl (A_P ti3 rfl) <|dw_o rfl (B_4 (k:=0) sl29 rfl rfl rfl (by omega) (by simp only [l_S,B_M _ _ _ h0 hj0,B_M,l_D,A_v];omega) (by exact List.not_mem_nil) (by omega) (by simp only [l_S,B_M _ _ _ h0 hj0,B_M,l_D,A_v];omega)) ?_
   refine A_9 <|C_W (k:=0) (z:=ix 0 l (tri n i.toNat+(j-i))) ti3 rfl rfl rfl (A_n (A_N _)) (by omega) (by simp only [l_S,B_M _ _ _ h0 hj0,B_M,l_D,A_v];omega) (by omega) (by simp only [l_S,B_M _ _ _ h0 hj0,B_M,l_D,A_v];omega) <|enk K19 <|A_F <|emm rfl <|A_A rfl (A_g rfl rfl) <|emm rfl <|enk K17 <|A_F <|emm rfl <|A_A rfl (A_g rfl rfl) <|emm rfl <|A_O ?_
   refine A_T (s:=(j)) (j+1) ⟨(by omega),‹_›⟩ (by omega) (A_J ⟨rfl,rfl,rfl,A_Q (A_k (show (tri n i.toNat+(j-i))+1=tri n i.toNat+((j+1)-i) by omega)),rfl,rfl,trivial⟩ (A_G (A_4 rfl (show mkM n n (symE l n i (j+1))=List.set (List.set (mkM n n (symE l n i j)) (i).toNat (List.set (ix [] (mkM n n (symE l n i j)) i) (j).toNat (ix 0 l (tri n i.toNat+(j-i))))) (j).toNat (List.set (ix [] (List.set (mkM n n (symE l n i j)) (i).toNat (List.set (ix [] (mkM n n (symE l n i j)) i) (j).toNat (ix 0 l (tri n i.toNat+(j-i))))) j) (i).toNat (ix 0 l (tri n i.toNat+(j-i)))) by exact (symE_step h0 j0 h28 (by omega) rfl).symm)) (rfl)))
  refine A_Z <|A_1 K13 <|A_F <|emm rfl <|A_A rfl (A_g rfl rfl) <|emm rfl <|A_O ?_
  refine A_T (s:=(i)) (i+1) ⟨(by omega),‹_›⟩ (by omega) (A_J ⟨rfl,rfl,rfl,A_Q (A_k (show tri n i.toNat+(j-i)=tri n (i+1).toNat by rw [show j=n by omega,tri_succ h0])),rfl,trivial⟩ (A_G (A_4 rfl (show mkM n n (symE l n (i+1) (i+1))=mkM n n (symE l n i j) by rw [show j=n by omega];exact (symE_row n l n i).symm)) (rfl)))
 refine A_Z <|A_1 K9 <|esk rfl <|A_R <|C_n 2 [0,1] rfl (by decide) rfl ?_
 exact retW (.inr rfl) (rr2,cc2,Hs) (hHn) ((show ([oVec rr2 cc2 29 1 false aH Hs,oRws 3 aInt [] Hs (mkM n n (symE l n n n))]:List Own) = [oVec rr2 cc2 29 1 false aH Hs,oRws 3 aInt [] Hs (mkM n n (symE l n i i))] from (A_G (rfl) (A_G (A_4 rfl (show mkM n n (symE l n n n)=mkM n n (symE l n i i) by rw [show i=n by omega])) (rfl)))).symm) (resW1 results98 (A_L (A_U rfl (D_S (show vec rr2 ((Hs).length) cc2=vec rr2 Hs.length cc2 by rfl)))))

theorem rMessage_ok (r:Rgn) (l:List Int) (R:RgOk r) (hlb:(l.length:Int)=rgB r):Ctr Try.prog 68 [aRgn r,aSl 1 false aInt l] (aSl 1 false aInts (msgR r l)):=by
 have hE:=B_8 R hlb
 have hbb:=F_K R
 have hd:=hE.d
 have ha:=hE.a
 have hk:=hE.k
 have hk0:=hE.k0
 have hk1:=hE.k1
 have hkk:=hE.kk
 have hnm:=D_C hE
 refine B_E Try.call68 func68 rfl rfl ?_
 intro w O
 refine A_l 0 2 rfl rfl fun hlen0_2=>A_l 0 6 rfl rfl fun hlen0_6=>B_D 1 rfl fun hlen1=>esr rfl fun _ K1=>A_w rfl rfl (AllOne.mem ⟨(A_N _),(A_N _),A_j,(A_N _),(A_N _),(A_N _),A_j,trivial⟩) fun b2_1=>emm rfl <|enk K1 <|A_C fun _ K2=>esr rfl fun _ K3=>A_A rfl (A_B runUnderlying53 rfl sizeOf3 (by decide) rfl) <|A_A rfl (A_K (k:=0) isAgg3 rfl rfl rfl) <|A_A rfl (B_W rfl rfl) <|enk K3 ?_
 refine A_H rfl (fun h14=>?_) (fun h14=>?_)
 ·have q:=hk1 h14
  have hka:=q.1
  have hln:=q.2.2.1
  have hhalf:(l.length:Int)/2=tri (r.K-1) (r.K-1).toNat:=by rw [<- hka];omega
  refine esr rfl fun _ K4=>A_A rfl (A_5 rfl runUnderlying29 rfl) <|A_A rfl (E_i rfl rfl) <|emm rfl <|enk K4 <|A_C fun _ K5=>?_
  refine ent_drawW2 (φ:=fun (y:Option Nat×Nat×List Hdr)=>match y with | (ro,co,Hs)=>Hs.length=(r.K-1).toNat) (val:=fun (y:Option Nat×Nat×List Hdr)=>match y with | (ro,co,Hs)=>vec ro Hs.length co) (Ws:=fun (y:Option Nat×Nat×List Hdr)=>match y with | (ro,co,Hs)=>[oVec ro co 29 1 false aH Hs,oRws 3 aInt [] Hs (mkM (r.K-1) (r.K-1) (symE (List.take ((↑l.length:Int)/2).toNat l) (r.K-1) (r.K-1) (r.K-1)))]) 13 [] 6 24 [(18,aEx (.pointer (some ⟨b2_1,4,none⟩))),(19,aInt r.K),(20,aInt (r.K-1)),(21,aSl 1 false aInt l),(22,aInt ((↑l.length:Int)/2)),(23,aSl 1 false aInt (List.take ((↑l.length:Int)/2).toNat l)),(24,aNew w.heap.size (fun (y:Option Nat×Nat×List Hdr)=>match y with | (ro,co,Hs)=>Hs.length=(r.K-1).toNat) (fun (y:Option Nat×Nat×List Hdr)=>match y with | (ro,co,Hs)=>aEx (vec ro Hs.length co)) (fun (y:Option Nat×Nat×List Hdr)=>match y with | (ro,co,Hs)=>[oVec ro co 29 1 false aH Hs,oRws 3 aInt [] Hs (mkM (r.K-1) (r.K-1) (symE (List.take ((↑l.length:Int)/2).toNat l) (r.K-1) (r.K-1) (r.K-1)))])),(25,aEx (.pointer (some ⟨b2_1,4,none⟩))),(26,aInt r.K),(27,aInt (r.K-1)),(28,aSl 1 false aInt l),(29,aInt ((↑l.length:Int)/2)),(30,aSl 1 false aInt (List.drop ((↑l.length:Int)/2).toNat l))] mixed (by kernel_rfl) (by kernel_rfl) (by kernel_rfl) (by kernel_rfl) (by kernel_rfl) (fun _ _ _ _ _ h=>h) rfl (by kernel_rfl) (by kernel_rfl) (fun _=>by kernel_rfl) (fun _=>by kernel_rfl) (fun _=>by kernel_rfl) (rsym_ok (r.K-1) (List.take ((↑l.length:Int)/2).toNat l) (by omega) (by omega) (by rw [List.length_take,<- hka];omega)) (by kernel_rfl) ⟨A_z rfl (A_y A_h),A_z rfl (A_y A_h),trivial⟩ ?_ ?_
  ·refine A_c rfl rfl (OpOK.eqv (A_B runUnderlying53 rfl sizeOf3 (by decide) rfl) rfl) <|A_c rfl rfl (OpOK.eqv (A_K (k:=0) isAgg3 rfl rfl rfl) rfl) <|A_c rfl rfl (OpOK.eqv (B_L rfl rfl) rfl) <|A_c rfl rfl (OpOK.eqv (A_D rfl) rfl) <|A_c rfl rfl (OpOK.eqv (A_D rfl) rfl) <|A_c rfl rfl (OpOK.eqv (C_z sl29 rfl rfl) rfl) <|A_c rfl rfl (OpOK.eqv (F_q (rsym_ok (r.K-1) (List.take ((↑l.length:Int)/2).toNat l) (by omega) (by omega) (by rw [List.length_take,<- hka];omega)) ⟨A_z rfl (A_y A_h),A_z rfl (A_y A_h),trivial⟩) rfl) <|A_c rfl rfl (OpOK.eqv (A_B runUnderlying53 rfl sizeOf3 (by decide) rfl) rfl) <|A_c rfl rfl (OpOK.eqv (A_K (k:=0) isAgg3 rfl rfl rfl) rfl) <|A_c rfl rfl (OpOK.eqv (B_L rfl rfl) rfl) <|A_c rfl rfl (OpOK.eqv (A_D rfl) rfl) <|A_c rfl rfl (OpOK.eqv (A_D rfl) rfl) <|A_c rfl rfl (OpOK.eqv (C_F sl29 rfl rfl) rfl) ?_
   exact C_C trivial
  rintro ⟨ro_2,co_2,Hs_2⟩ h24_2
  show DWL _ _ [oVec ro_2 co_2 29 1 false aH Hs_2,oRws 3 aInt [] Hs_2 (mkM (r.K-1) (r.K-1) (symE (List.take ((↑l.length:Int)/2).toNat l) (r.K-1) (r.K-1) (r.K-1))),oBox b2_1 53 [aInt r.F.P,aInt r.F.M,aSl 1 false aInt r.F.mod,aInt r.Kind,aInt r.K,aInt r.D,aSl 1 false aInt r.Points]] _ [(18,aEx (.pointer (some ⟨b2_1,4,none⟩))),(19,aInt r.K),(20,aInt (r.K-1)),(21,aSl 1 false aInt l),(22,aInt ((↑l.length:Int)/2)),(23,aSl 1 false aInt (List.take ((↑l.length:Int)/2).toNat l)),(24,aEx (vec ro_2 Hs_2.length co_2)),(25,aEx (.pointer (some ⟨b2_1,4,none⟩))),(26,aInt r.K),(27,aInt (r.K-1)),(28,aSl 1 false aInt l),(29,aInt ((↑l.length:Int)/2)),(30,aSl 1 false aInt (List.drop ((↑l.length:Int)/2).toNat l))] _ _
  refine A_c rfl rfl (OpOK.eqv (A_B runUnderlying53 rfl sizeOf3 (by decide) rfl) rfl) <|A_c rfl rfl (OpOK.eqv (A_K (k:=2) isAgg3 rfl rfl rfl) rfl) <|A_c rfl rfl (OpOK.eqv (B_L rfl rfl) rfl) <|A_c rfl rfl (OpOK.eqv (A_D rfl) rfl) <|A_c rfl rfl (OpOK.eqv (A_D rfl) rfl) <|A_c rfl rfl (OpOK.eqv (C_z sl29 rfl rfl) rfl) <|A_c rfl rfl (A_D rfl) <|A_c rfl rfl (OpOK.eqv (A_B runUnderlying53 rfl sizeOf3 (by decide) rfl) rfl) <|A_c rfl rfl (OpOK.eqv (A_K (k:=2) isAgg3 rfl rfl rfl) rfl) <|A_c rfl rfl (OpOK.eqv (B_L rfl rfl) rfl) <|A_c rfl rfl (OpOK.eqv (A_D rfl) rfl) <|A_c rfl rfl (OpOK.eqv (A_D rfl) rfl) <|A_c rfl rfl (OpOK.eqv (C_F sl29 rfl rfl) rfl) <|C_C <|B_0 (rs:=[oVec ro_2 co_2 29 1 false aH Hs_2,oRws 3 aInt [] Hs_2 (mkM (r.K-1) (r.K-1) (symE (List.take ((↑l.length:Int)/2).toNat l) (r.K-1) (r.K-1) (r.K-1))),oBox b2_1 53 [aInt r.F.P,aInt r.F.M,aSl 1 false aInt r.F.mod,aInt r.Kind,aInt r.K,aInt r.D,aSl 1 false aInt r.Points]]) [] rfl (rsym_ok (r.K-1) (List.drop ((↑l.length:Int)/2).toNat l) (by omega) (by omega) (by rw [l_D,<- hka];omega)) rfl rfl (.inl rfl) ⟨A_z rfl (A_y (A_p _)),A_z rfl (A_y (A_p _)),trivial⟩ ?_
  rintro ⟨ro_3,co_3,Hs_3⟩ h31_3
  show Ent _ ⟨_::_,[_,_,_,_,_]⟩ _
  refine B_q 2 3 rfl rfl (by decide) <|B_q 0 1 rfl rfl (by decide) <|B_t 0 31 rfl (B_g (k:=0) (B_h rfl) (by simp_all) rfl) <|B_P (k:=0) rfl vt65 rfl rfl (by simp_all) rfl (A_y A_h) (by simp;omega) (by simp;omega) fun r32_3 cr32_3=>emm rfl <|enk K5 <|A_R ?_
  exact retR1 (.inr rfl) results68 (A_L (A_U rfl (B_g (k:=0) (D_3 rfl) rfl (by exact (msgR_1 h14 hka hhalf).symm))))
 have K0:r.Kind=0:=by omega
 have hkn:r.Kind≠1:=h14
 have q:=hk0 K0
 have htk:=tri_K (K:=r.K) (by omega)
 have hT:(r.K*(r.K+1))/2=tri r.K r.K.toNat:=by omega
 have q4:=q.2.2.2
 have t0:=B_w (n:=r.K) r.K.toNat (by omega)
 have hld:(List.drop ((r.K*(r.K+1))/2).toNat l).length=l.length-((r.K*(r.K+1))/2).toNat:=l_D
 refine esp K2 <|A_C fun _ K6=>?_
 refine ent_drawW1 (φ:=fun (y:Option Nat×Nat×List Hdr)=>match y with | (ro,co,Hs)=>Hs.length=r.K.toNat) (A:=fun (y:Option Nat×Nat×List Hdr)=>match y with | (ro,co,Hs)=>aEx (vec ro Hs.length co)) (Ws:=fun (y:Option Nat×Nat×List Hdr)=>match y with | (ro,co,Hs)=>[oVec ro co 29 1 false aH Hs,oRws 3 aInt [] Hs (mkM r.K r.K (symE (List.take ((r.K*(r.K+1))/2).toNat l) r.K r.K r.K))]) 12 [] [12] 44 [] [(1,aSl 1 false aInt l),(2,aEx (.pointer (some ⟨b2_1,0,none⟩)))] mixed (by kernel_rfl) (by kernel_rfl) (by kernel_rfl) (by kernel_rfl) (by kernel_rfl) (by kernel_rfl) (fun _ _ _ _ _ h=>h) (AllPlS.mem (T:=[]) trivial) ⟨rfl,rfl,trivial⟩ (by kernel_rfl) (fun w=>?_) ?_
 ·refine dw_o rfl (A_B runUnderlying53 rfl sizeOf3 (by decide) rfl) <|dw_o rfl (A_K (k:=0) isAgg3 rfl rfl rfl) <|dw_o rfl (A_D rfl) <|dw_o rfl (A_B runUnderlying53 rfl sizeOf3 (by decide) rfl) <|dw_o rfl (A_K (k:=0) isAgg3 rfl rfl rfl) <|dw_o rfl (A_B runUnderlying53 rfl sizeOf3 (by decide) rfl) <|dw_o rfl (A_K (k:=0) isAgg3 rfl rfl rfl) <|dw_o rfl (A_g rfl rfl) <|dw_o rfl (B_2 rfl rfl) <|dw_o rfl (E_i rfl rfl) <|dw_o rfl (C_z sl29 rfl rfl) <|dw_o rfl (F_q (rsym_ok r.K (List.take ((r.K*(r.K+1))/2).toNat l) (by omega) (by omega) (by rw [List.length_take];omega)) ⟨A_z rfl (A_y A_h),A_z rfl (A_y A_h),trivial⟩) ?_
  exact ⟨rfl,trivial⟩
 rintro ⟨ro_5,co_5,Hs_5⟩ h44_5
 show Ent _ ⟨_::_,[_,_,_]⟩ _
 refine emm rfl <|enk K6 <|esr rfl fun _ K7=>B_q 0 1 rfl rfl (by decide) <|B_t 0 6 rfl (B_g (k:=0) (B_h rfl) (by simp_all) rfl) <|emm rfl <|A_A rfl (A_B runUnderlying53 rfl sizeOf3 (by decide) rfl) <|A_A rfl (A_K (k:=0) isAgg3 rfl rfl rfl) <|A_A rfl (A_B runUnderlying53 rfl sizeOf3 (by decide) rfl) <|A_A rfl (A_K (k:=0) isAgg3 rfl rfl rfl) <|A_A rfl (A_g rfl rfl) <|A_A rfl (B_2 rfl rfl) <|A_A rfl (E_i rfl rfl) <|A_A rfl (C_F sl29 rfl rfl) <|emm rfl <|enk K7 <|esk rfl <|A_C fun _ K9=>esk rfl <|A_I <|B_U 29 1 false aInts (fun _=>rfl) <|A_Y (fun (ss:Int×Option Nat×Nat)=>match ss with | (i,rr7,cc7)=>(⟨[(2,aEx (.pointer (some ⟨b2_1,0,none⟩))),(6,aSl 1 false aInts (mkM r.K r.K (symE (List.take ((r.K*(r.K+1))/2).toNat l) r.K r.K r.K))),(7,aSl 1 false aInt (List.drop ((r.K*(r.K+1))/2).toNat l)),(8,aEx (vec rr7 (((msgR r l).take i.toNat).length) cc7)),(9,aInt i)],[oVec rr7 cc7 29 1 false aInts ((msgR r l).take i.toNat),oBox b2_1 53 [aInt r.F.P,aInt r.F.M,aSl 1 false aInt r.F.mod,aInt r.Kind,aInt r.K,aInt r.D,aSl 1 false aInt r.Points]]⟩:St)) (fun (ss:Int×Option Nat×Nat)=>match ss with | (i,rr7,cc7)=>(0<=i)/\(i<=r.D)) (fun (ss:Int×Option Nat×Nat)=>match ss with | (i,rr7,cc7)=>(r.D-i).toNat) (0,none,0) ⟨(by omega),(by omega)⟩ (A_J ⟨rfl,rfl,rfl,A_Q ((show aEx (vec none ([]:List _).length 0)=aEx (vec none (((msgR r l).take (0:Int).toNat).length) 0) from B_J (congrArg List.length (show (msgR r l).take (0:Int).toNat = [] by rfl).symm))),A_Q (A_k (show 0=(0:Int) by rfl)),trivial⟩ (A_G (A_e (show (msgR r l).take (0:Int).toNat = [] by rfl)) (rfl))) ?_
 rintro ⟨i,rr7,cc7⟩ ⟨h0,h1⟩
 show Ent _ ⟨_,[_,_]⟩ _
 have ltm:((msgR r l).take i.toNat).length=i.toNat:=by rw [List.length_take];omega
 refine A_C fun _ K11=>esr rfl fun _ K12=>A_A rfl (A_B runUnderlying53 rfl sizeOf3 (by decide) rfl) <|A_A rfl (A_K (k:=1) isAgg3 rfl rfl rfl) <|A_A rfl (A_m rfl rfl) <|enk K12 ?_
 refine A_H rfl (fun h57=>?_) (fun h57=>?_)
 ·refine esp K11 <|A_C fun _ K13=>A_I <|esr rfl fun _ K14=>A_A rfl (A_B runUnderlying53 rfl sizeOf3 (by decide) rfl) <|A_A rfl (A_K (k:=1) isAgg3 rfl rfl rfl) <|B_1 aInt 0 rfl vt29 rfl rfl (by omega) (by omega) (by omega) (fun _ _=>rfl) (AllV.mem ⟨rfl,trivial⟩) fun b62_8=>emm rfl <|enk K14 <|A_C fun _ K15=>esk rfl <|A_I <|A_Y (fun (j:Int)=>(⟨[(2,aEx (.pointer (some ⟨b2_1,0,none⟩))),(6,aSl 1 false aInts (mkM r.K r.K (symE (List.take ((r.K*(r.K+1))/2).toNat l) r.K r.K r.K))),(7,aSl 1 false aInt (List.drop ((r.K*(r.K+1))/2).toNat l)),(8,aEx (vec rr7 (((msgR r l).take i.toNat).length) cc7)),(9,aInt i),(10,aEx (vec (some b62_8) ((r.D).toNat) ((r.D).toNat))),(11,aInt j)],[oVec (some b62_8) ((r.D).toNat) 3 1 false aInt (mixL (brR r l i) (List.replicate r.D.toNat 0) j),oVec rr7 cc7 29 1 false aInts ((msgR r l).take i.toNat),oBox b2_1 53 [aInt r.F.P,aInt r.F.M,aSl 1 false aInt r.F.mod,aInt r.Kind,aInt r.K,aInt r.D,aSl 1 false aInt r.Points]]⟩:St)) (fun (j:Int)=>(0<=j)/\(j<=r.D)) (fun (j:Int)=>(r.D-j).toNat) 0 ⟨(by omega),(by omega)⟩ (A_J ⟨rfl,rfl,rfl,rfl,rfl,rfl,A_Q (A_k (show 0=(0:Int) by rfl)),trivial⟩ (A_G (A_e (show mixL (brR r l i) (List.replicate r.D.toNat 0) (0:Int)=List.replicate ((r.D).toNat) 0 by exact D_M _ _)) (rfl))) ?_
  rintro j ⟨j0,j1⟩
  show Ent _ ⟨_,[_,_,_]⟩ _
  have lmx:(mixL (brR r l i) (List.replicate r.D.toNat 0) j).length=r.D.toNat:=by rw [B_6 _ _ (by simp [C_3])];simp
  refine A_C fun _ K17=>esr rfl fun _ K18=>A_A rfl (A_B runUnderlying53 rfl sizeOf3 (by decide) rfl) <|A_A rfl (A_K (k:=2) isAgg3 rfl rfl rfl) <|A_A rfl (A_m rfl rfl) <|enk K18 ?_
  refine A_H rfl (fun h66=>?_) (fun h66=>?_)
  ·refine esp K17 <|A_C fun _ K19=>A_I <|A_C fun _ K20=>?_
   refine B_N (⟨[(2,aEx (.pointer (some ⟨b2_1,0,none⟩))),(6,aSl 1 false aInts (mkM r.K r.K (symE (List.take ((r.K*(r.K+1))/2).toNat l) r.K r.K r.K))),(7,aSl 1 false aInt (List.drop ((r.K*(r.K+1))/2).toNat l)),(8,aEx (vec rr7 (((msgR r l).take i.toNat).length) cc7)),(9,aInt i),(10,aEx (vec (some b62_8) ((r.D).toNat) ((r.D).toNat))),(11,aInt j),(78,aBool (decide ((i<r.K)/\(j<r.K))))],[oVec (some b62_8) ((r.D).toNat) 3 1 false aInt (mixL (brR r l i) (List.replicate r.D.toNat 0) j),oVec rr7 cc7 29 1 false aInts ((msgR r l).take i.toNat),oBox b2_1 53 [aInt r.F.P,aInt r.F.M,aSl 1 false aInt r.F.mod,aInt r.Kind,aInt r.K,aInt r.D,aSl 1 false aInt r.Points]]⟩) ?_ ?_
   ·refine A_F <|emm rfl <|A_A rfl (A_B runUnderlying53 rfl sizeOf3 (by decide) rfl) <|A_A rfl (A_K (k:=2) isAgg3 rfl rfl rfl) <|A_A rfl (A_m rfl rfl) <|emm rfl ?_
    refine B_I rfl rfl rfl rfl (fun hg73=>?_) (fun hg73=>?_)
    ·refine emm rfl <|A_M rfl rfl rfl rfl (d_T hg73) <|A_A rfl (A_B runUnderlying53 rfl sizeOf3 (by decide) rfl) <|A_M rfl rfl rfl rfl (d_T hg73) <|A_A rfl (A_K (k:=2) isAgg3 rfl rfl rfl) <|A_M rfl rfl rfl rfl (d_T hg73) <|A_A rfl (A_m rfl rfl) <|A_A rfl (A_q rfl (d_T hg73) rfl) <|A_O ?_
     exact A_J ⟨rfl,rfl,rfl,rfl,rfl,rfl,rfl,A_a (dq_Q ((and_iff_right hg73).trans Iff.rfl)),trivial⟩ rfl
    refine A_E rfl rfl rfl rfl (d_F hg73) <|A_E rfl rfl rfl rfl (d_F hg73) <|A_E rfl rfl rfl rfl (d_F hg73) <|A_A rfl (A_3 rfl (d_F hg73) rfl) <|A_O ?_
    exact A_J ⟨rfl,rfl,rfl,rfl,rfl,rfl,rfl,A_a (dq_F rfl (fun h=>hg73 h.1)),trivial⟩ rfl
   refine A_1 K20 ?_
   refine A_H rfl (fun h78=>?_) (fun h78=>?_)
   ·have hwi:(ix [] (mkM r.K r.K (symE (List.take ((r.K*(r.K+1))/2).toNat l) r.K r.K r.K)) i).length=r.K.toNat:=C_Q _ h0 h78.1
    have hwl:=A_v r.K r.K (symE (List.take ((r.K*(r.K+1))/2).toNat l) r.K r.K r.K)
    refine A_F <|emm rfl <|A_A rfl (A_W [] sl65 rfl rfl) <|A_A rfl (A_P ti29 rfl) <|emm rfl <|A_A rfl (A_W 0 sl29 rfl rfl) <|A_A rfl (A_P ti3 rfl) <|A_A rfl (A_s sl29 rfl rfl) <|B_C (k:=0) (z:=ix 0 (ix [] (mkM r.K r.K (symE (List.take ((r.K*(r.K+1))/2).toNat l) r.K r.K r.K)) i) j) ti3 rfl rfl rfl (A_n (A_N _)) (by omega) (by omega) <|enk K19 <|A_F <|emm rfl <|A_A rfl (A_g rfl rfl) <|emm rfl <|A_O ?_
    refine A_T (s:=(j)) (j+1) ⟨(by omega),‹_›⟩ (by omega) (A_J ⟨rfl,rfl,rfl,rfl,rfl,rfl,rfl,trivial⟩ (A_G (A_e (show mixL (brR r l i) (List.replicate r.D.toNat 0) (j+1)=List.set (mixL (brR r l i) (List.replicate r.D.toNat 0) j) (j).toNat (ix 0 (ix [] (mkM r.K r.K (symE (List.take ((r.K*(r.K+1))/2).toNat l) r.K r.K r.K)) i) j) by exact (C_s (brR r l i) _ j0 (by first | omega | (simp;omega)) (by simp [C_3]) (brR_11 h0 j0 h66 h78.1 h78.2 hT).symm).symm)) (rfl)))
   refine esr rfl fun _ K21=>A_A rfl (A_B runUnderlying53 rfl sizeOf3 (by decide) rfl) <|A_A rfl (A_K (k:=2) isAgg3 rfl rfl rfl) <|A_A rfl (A_m rfl rfl) <|enk K21 ?_
   refine A_H rfl (fun h92=>?_) (fun h92=>?_)
   ·have hb:=brR_rng hE K0 h0 h92 (by omega) h66
    refine A_F <|emm rfl <|A_A rfl (A_B runUnderlying53 rfl sizeOf3 (by decide) rfl) <|A_A rfl (A_K (k:=2) isAgg3 rfl rfl rfl) <|A_A rfl (A_B runUnderlying53 rfl sizeOf3 (by decide) rfl) <|A_A rfl (A_K (k:=2) isAgg3 rfl rfl rfl) <|A_A rfl (B_L rfl rfl) <|A_A rfl (B_2 rfl rfl) <|emm rfl <|A_A rfl (A_g rfl rfl) <|A_A rfl (A_B runUnderlying53 rfl sizeOf3 (by decide) rfl) <|A_A rfl (A_K (k:=2) isAgg3 rfl rfl rfl) <|A_A rfl (B_L rfl rfl) <|A_A rfl (A_W 0 sl29 rfl rfl) <|A_A rfl (A_P ti3 rfl) <|A_A rfl (A_s sl29 rfl rfl) <|B_C (k:=0) (z:=ix 0 (List.drop ((r.K*(r.K+1))/2).toNat l) (((i*(r.D-r.K))+j)-r.K)) ti3 rfl rfl rfl (A_n (A_N _)) (by omega) (by omega) <|enk K19 <|A_F <|emm rfl <|A_A rfl (A_g rfl rfl) <|emm rfl <|A_O ?_
    refine A_T (s:=(j)) (j+1) ⟨(by omega),‹_›⟩ (by omega) (A_J ⟨rfl,rfl,rfl,rfl,rfl,rfl,rfl,trivial⟩ (A_G (A_e (show mixL (brR r l i) (List.replicate r.D.toNat 0) (j+1)=List.set (mixL (brR r l i) (List.replicate r.D.toNat 0) j) (j).toNat (ix 0 (List.drop ((r.K*(r.K+1))/2).toNat l) (((i*(r.D-r.K))+j)-r.K)) by exact (C_s (brR r l i) _ j0 (by first | omega | (simp;omega)) (by simp [C_3]) (brR_10 h0 h66 h92 (by omega) hT rfl).symm).symm)) (rfl)))
   refine esr rfl fun _ K22=>A_A rfl (A_B runUnderlying53 rfl sizeOf3 (by decide) rfl) <|A_A rfl (A_K (k:=2) isAgg3 rfl rfl rfl) <|A_A rfl (A_m rfl rfl) <|enk K22 ?_
   refine A_H rfl (fun h114=>?_) (fun h114=>?_)
   ·have hb:=brR_rng hE K0 j0 h114 (by omega) h57
    refine A_F <|emm rfl <|A_A rfl (A_B runUnderlying53 rfl sizeOf3 (by decide) rfl) <|A_A rfl (A_K (k:=2) isAgg3 rfl rfl rfl) <|A_A rfl (A_B runUnderlying53 rfl sizeOf3 (by decide) rfl) <|A_A rfl (A_K (k:=2) isAgg3 rfl rfl rfl) <|A_A rfl (B_L rfl rfl) <|A_A rfl (B_2 rfl rfl) <|emm rfl <|A_A rfl (A_g rfl rfl) <|A_A rfl (A_B runUnderlying53 rfl sizeOf3 (by decide) rfl) <|A_A rfl (A_K (k:=2) isAgg3 rfl rfl rfl) <|A_A rfl (B_L rfl rfl) <|A_A rfl (A_W 0 sl29 rfl rfl) <|A_A rfl (A_P ti3 rfl) <|A_A rfl (A_s sl29 rfl rfl) <|B_C (k:=0) (z:=ix 0 (List.drop ((r.K*(r.K+1))/2).toNat l) (((j*(r.D-r.K))+i)-r.K)) ti3 rfl rfl rfl (A_n (A_N _)) (by omega) (by omega) <|enk K19 <|A_F <|emm rfl <|A_A rfl (A_g rfl rfl) <|emm rfl <|A_O ?_
    refine A_T (s:=(j)) (j+1) ⟨(by omega),‹_›⟩ (by omega) (A_J ⟨rfl,rfl,rfl,rfl,rfl,rfl,rfl,trivial⟩ (A_G (A_e (show mixL (brR r l i) (List.replicate r.D.toNat 0) (j+1)=List.set (mixL (brR r l i) (List.replicate r.D.toNat 0) j) (j).toNat (ix 0 (List.drop ((r.K*(r.K+1))/2).toNat l) (((j*(r.D-r.K))+i)-r.K)) by exact (C_s (brR r l i) _ j0 (by first | omega | (simp;omega)) (by simp [C_3]) (brR_01 h57 j0 h92 h114 hT rfl).symm).symm)) (rfl)))
   refine esp K19 <|A_F <|emm rfl <|A_A rfl (A_g rfl rfl) <|emm rfl <|A_O ?_
   refine A_T (s:=(j)) (j+1) ⟨(by omega),‹_›⟩ (by omega) (A_J ⟨rfl,rfl,rfl,rfl,rfl,rfl,rfl,trivial⟩ (A_G (A_e (show mixL (brR r l i) (List.replicate r.D.toNat 0) (j+1)=mixL (brR r l i) (List.replicate r.D.toNat 0) j by exact mixL_same j0 (by rw [C_3];omega) (by simp [C_3]) (brR_00 h66 j0 h92 h114))) (rfl)))
  refine A_Z <|A_1 K15 <|A_F <|emm rfl <|B_t 0 134 rfl (B_g (k:=0) (B_h rfl) (by simp_all) rfl) <|B_Q (k:=0) (enc:=aInts) (y:=mixL (brR r l i) (List.replicate r.D.toNat 0) j) rfl rfl vt65 rfl rfl rfl rfl ((A_n A_j)) (by omega) (by omega) (by decide) fun b136_9 c136_9=>emm rfl <|enk K13 <|A_F <|emm rfl <|A_A rfl (A_g rfl rfl) <|emm rfl <|A_O ?_
  refine A_T (s:=(i,rr7,cc7)) (i+1,(some b136_9),c136_9) ⟨(by omega),‹_›⟩ (by dsimp only;omega) (A_J ⟨rfl,rfl,rfl,A_Q (B_J (congrArg List.length (show (msgR r l).take (i+1).toNat=((msgR r l).take i.toNat)++[mixL (brR r l i) (List.replicate r.D.toNat 0) j] by rw [msg_row hkn h0 h57,D_X (brR r l i) _ (by rw [C_3];omega) (by simp;omega)]).symm)),rfl,trivial⟩ (A_G (A_e (show (msgR r l).take (i+1).toNat=((msgR r l).take i.toNat)++[mixL (brR r l i) (List.replicate r.D.toNat 0) j] by rw [msg_row hkn h0 h57,D_X (brR r l i) _ (by rw [C_3];omega) (by simp;omega)])) (rfl)))
 refine A_Z <|A_1 K9 <|esk rfl <|A_R ?_
 exact retR1 (.inr rfl) results68 (A_L (A_U rfl (B_g (k:=0) (D_3 rfl) rfl (by exact t_L (by omega)))))

theorem rEncode_ok (r:Rgn) (l:List Int) (R:RgOk r) (hlb:(l.length:Int)=rgB r):Ctr Try.prog 35 [aRgn r,aSl 1 false aInt l] (aSl 1 false aInts (encW r l)):=by
 have hE:=B_8 R hlb
 have hF:=R.fld
 have hS:=hF.1
 have hd:=hE.d
 have ha:=hE.a
 have hnm:=D_C hE
 have hN:=R.len
 have hel:(encW r l).length=r.Points.length:=by unfold encW;rw [B_F,A_7]
 refine B_E Try.call35 func35 rfl rfl ?_
 intro w O
 refine A_l 0 2 rfl rfl fun hlen0_2=>A_l 0 6 rfl rfl fun hlen0_6=>B_D 1 rfl fun hlen1=>esr rfl fun _ K1=>A_w rfl rfl (AllOne.mem ⟨(A_N _),(A_N _),A_j,(A_N _),(A_N _),(A_N _),A_j,trivial⟩) fun b2_1=>emm rfl <|enk K1 <|esr rfl fun _ K2=>A_A rfl (A_S (k:=0) ti53 rfl rfl rfl) <|emm rfl <|A_A rfl (A_X (rMessage_ok r l ‹_› ‹_›) rfl) <|emm rfl <|enk K2 <|esr rfl fun _ K3=>A_A rfl (A_S (k:=0) ti53 rfl rfl rfl) <|A_A rfl (A_X (G_m r ‹_›) rfl) <|emm rfl <|A_A rfl (A_V rfl rfl) <|A_A rfl (A_V rfl rfl) <|emm rfl <|enk K3 <|esk rfl <|A_C fun _ K5=>esk rfl <|A_I <|B_U 29 1 false aInts (fun _=>rfl) <|A_Y (fun (ss:Int×Option Nat×Nat)=>match ss with | (i,rr3,cc3)=>(⟨[(2,aEx (.pointer (some ⟨b2_1,0,none⟩))),(5,aSl 1 false aInts (msgR r l)),(7,aInt (rgA r)),(8,aEx (vec rr3 (((encW r l).take i.toNat).length) cc3)),(9,aInt i)],[oVec rr3 cc3 29 1 false aInts ((encW r l).take i.toNat),oBox b2_1 53 [aInt r.F.P,aInt r.F.M,aSl 1 false aInt r.F.mod,aInt r.Kind,aInt r.K,aInt r.D,aSl 1 false aInt r.Points]]⟩:St)) (fun (ss:Int×Option Nat×Nat)=>match ss with | (i,rr3,cc3)=>(0<=i)/\(i<=r.Points.length)) (fun (ss:Int×Option Nat×Nat)=>match ss with | (i,rr3,cc3)=>(r.Points.length-i).toNat) (0,none,0) ⟨(by omega),(by omega)⟩ (A_J ⟨rfl,rfl,rfl,A_Q ((show aEx (vec none ([]:List _).length 0)=aEx (vec none (((encW r l).take (0:Int).toNat).length) 0) from B_J (congrArg List.length (show (encW r l).take (0:Int).toNat = [] by rfl).symm))),A_Q (A_k (show 0=(0:Int) by rfl)),trivial⟩ (A_G (A_e (show (encW r l).take (0:Int).toNat = [] by rfl)) (rfl))) ?_
 rintro ⟨i,rr3,cc3⟩ ⟨h0,h1⟩
 show Ent _ ⟨_,[_,_]⟩ _
 have lte:((encW r l).take i.toNat).length=i.toNat:=by rw [List.length_take];omega
 refine A_C fun _ K7=>esr rfl fun _ K8=>A_A rfl (A_B runUnderlying53 rfl sizeOf29 (by decide) rfl) <|A_A rfl (A_K (k:=1) isAgg29 rfl rfl rfl) <|A_A rfl (A_5 rfl runUnderlying29 rfl) <|A_A rfl (A_m rfl rfl) <|enk K8 ?_
 refine A_H rfl (fun h22=>?_) (fun h22=>?_)
 ·refine esp K7 <|A_C fun _ K9=>A_I <|A_u 10 mixed (by kernel_rfl) (by kernel_rfl) (by kernel_rfl) <|dw_o rfl (A_D rfl) <|dw_o rfl (A_B runUnderlying53 rfl sizeOf51 (by decide) rfl) <|dw_o rfl (A_S (k:=1) ti51 rfl rfl rfl) <|dw_o rfl (A_S (k:=1) ti53 rfl rfl rfl) <|dw_o rfl (A_D rfl) <|dw_o rfl (A_X (CtrF.ctr (CtrF.sl (rVector_ok r i ‹_› ‹_› ‹_› (by omega) (by omega)))) rfl) <|dw_o rfl (A_D rfl) <|dw_o rfl (A_D rfl) <|dw_o rfl (A_X (rCombine_ok r.F (powsF r.F (ix 0 r.Points i) r.D) (msgR r l) (rgA r) ‹_› (by omega) (by omega) (fun i i0 i1=>msg_wid hE i0 i1)) rfl) <|dw_o rfl (C_Z (enc:=aInts) (y:=comb r.F (powsF r.F (ix 0 r.Points i) r.D) (msgR r l) (rgA r)) vt65 rfl (A_n A_j)) <|A_9 <|B_P (k:=0) rfl vt65 rfl rfl rfl rfl (A_y A_h) (by simp only [l_A,List.length_cons,List.length_nil];omega) (by simp only [l_A,List.length_cons,List.length_nil];omega) fun r35_3 cr35_3=>emm rfl <|enk K9 <|A_F <|emm rfl <|A_A rfl (A_g rfl rfl) <|emm rfl <|A_O ?_
  refine A_T (s:=(i,rr3,cc3)) (i+1,r35_3,cr35_3) ⟨(by omega),‹_›⟩ (by dsimp only;omega) (A_J ⟨rfl,rfl,rfl,A_Q (B_J (congrArg List.length (show (encW r l).take (i+1).toNat=((encW r l).take i.toNat)++[comb r.F (powsF r.F (ix 0 r.Points i) r.D) (msgR r l) (rgA r)] by exact encW_succ h0 h22).symm)),rfl,trivial⟩ (A_G (A_e (show (encW r l).take (i+1).toNat=((encW r l).take i.toNat)++[comb r.F (powsF r.F (ix 0 r.Points i) r.D) (msgR r l) (rgA r)] by exact encW_succ h0 h22)) (rfl)))
 refine A_Z <|A_1 K5 <|esk rfl <|A_R ?_
 exact retR1 (.inr rfl) results35 (A_L (A_U rfl (B_g (k:=0) (D_3 rfl) rfl (by exact t_L (by omega)))))
end Go.Proofs.Ytaipghchkamajaa

