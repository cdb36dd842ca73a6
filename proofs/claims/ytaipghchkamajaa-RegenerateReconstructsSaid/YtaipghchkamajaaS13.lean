/-
  Walks.
-/
import Derived.Test.YtaipghchkamajaaS12
open Go Go.Cw
namespace Go.Proofs.Ytaipghchkamajaa
open Try
set_option maxRecDepth 100000
set_option linter.unusedVariables false
set_option linter.unusedSimpArgs false
set_option maxHeartbeats 1000000 in
theorem rReconstruct_ok (r:Rgn) (ws:List Int) (cs:List (List Int)) (hz:rarE r ws cs=0) (h12:(r.Points.length:Int)<=12):Ctr Try.prog 47 [aRgn r,aSl 1 false aInt ws,aSl 1 false aInts cs] (aTup [aSl 1 false aInt (refV r ws cs),aInt (refErr r ws cs)]):=by
 have RW:=rw_facts hz h12
 have Q:=RW.q
 have R:=RW.ro
 have hF:=R.fld
 have hb:=RW.b
 have ha:=RW.a
 have hwl:=RW.wl
 have hcl:=RW.cl
 have hk:=RW.k
 have hm:=RW.m
 have hul:=RW.ul
 have hel:=RW.el
 have hrl:=RW.rl
 have hmul:rgA r*(ws.length:Int)=rgA r*r.K:=by rw [hwl]
 refine B_E Try.call47 func47 rfl rfl ?_
 intro w O
 refine A_l 0 2 rfl rfl fun hlen0_2=>A_l 0 6 rfl rfl fun hlen0_6=>B_D 1 rfl fun hlen1=>B_D 2 rfl fun hlen2=>esr rfl fun _ K1=>A_w rfl rfl (AllOne.mem ⟨(A_N _),(A_N _),A_j,(A_N _),(A_N _),(A_N _),A_j,trivial⟩) fun b3_1=>emm rfl <|enk K1 <|esr rfl fun _ K2=>A_A rfl (A_S (k:=0) ti53 rfl rfl rfl) <|A_A rfl (A_X (G_m r ‹_›) rfl) <|emm rfl <|A_A rfl (A_V rfl rfl) <|A_A rfl (A_V rfl rfl) <|emm rfl <|enk K2 <|esk rfl <|A_C fun _ K4=>esk rfl <|A_I <|B_U 29 1 false aInts (fun _=>rfl) <|A_Y (fun (ss:Int×Option Nat×Nat)=>match ss with | (i,rr3,cc3)=>(⟨[(1,aSl 1 false aInt ws),(2,aSl 1 false aInts cs),(3,aEx (.pointer (some ⟨b3_1,0,none⟩))),(8,aInt (rgB r)),(9,aInt (rgA r)),(10,aEx (vec rr3 (((unsM r ws).take i.toNat).length) cc3)),(11,aInt i)],[oVec rr3 cc3 29 1 false aInts ((unsM r ws).take i.toNat),oBox b3_1 53 [aInt r.F.P,aInt r.F.M,aSl 1 false aInt r.F.mod,aInt r.Kind,aInt r.K,aInt r.D,aSl 1 false aInt r.Points]]⟩:St)) (fun (ss:Int×Option Nat×Nat)=>match ss with | (i,rr3,cc3)=>(0<=i)/\(i<=rgB r)) (fun (ss:Int×Option Nat×Nat)=>match ss with | (i,rr3,cc3)=>(rgB r-i).toNat) (0,none,0) ⟨(by omega),(by omega)⟩ (A_J ⟨rfl,rfl,rfl,rfl,rfl,A_Q ((show aEx (vec none ([]:List _).length 0)=aEx (vec none (((unsM r ws).take (0:Int).toNat).length) 0) from B_J (congrArg List.length (show (unsM r ws).take (0:Int).toNat = [] by rfl).symm))),A_Q (A_k (show 0=(0:Int) by rfl)),trivial⟩ (A_G (A_e (show (unsM r ws).take (0:Int).toNat = [] by rfl)) (rfl))) ?_
 rintro ⟨i,rr3,cc3⟩ ⟨h0,h1⟩
 show Ent _ ⟨_,[_,_]⟩ _
 have lt1:((unsM r ws).take i.toNat).length=i.toNat:=by rw [List.length_take];omega
 refine A_C fun _ K6=>esr rfl fun _ K7=>A_A rfl (A_m rfl rfl) <|enk K7 ?_
 refine A_H rfl (fun h32=>?_) (fun h32=>?_)
 ·refine esp K6 <|A_C fun _ K8=>A_I <|esr rfl fun _ K9=>B_1 aInt 0 rfl vt29 rfl rfl (by omega) (by omega) (by omega) (fun _ _=>rfl) (AllV.mem ⟨rfl,trivial⟩) fun b36_4=>emm rfl <|enk K9 <|esr rfl fun _ K10=>A_A rfl (A_s sl29 rfl rfl) <|B_C (k:=0) (z:=1) ti3 rfl rfl rfl (A_n (A_N _)) (by omega) (by simp;omega) <|enk K10 <|A_C fun _ K11=>B_t 0 12 rfl (B_g (k:=0) (B_h rfl) (by simp) rfl) <|A_F <|A_A rfl (A_S (k:=1) ti53 rfl rfl rfl) <|emm rfl <|A_A rfl (A_X (rEncode_ok r (unI (rgB r) i) R (by rw [D_d];omega)) rfl) <|emm rfl <|enk K11 <|A_C fun _ K12=>?_
  have hen:=RW.en i
  refine A_F <|emm rfl <|enk K12 <|A_C fun _ K13=>esk rfl <|A_I <|B_U 3 1 false aInt (fun _=>rfl) <|A_Y (fun (ss:Int×Option Nat×Nat)=>match ss with | (j,rr6,cc6)=>(⟨[(1,aSl 1 false aInt ws),(2,aSl 1 false aInts cs),(3,aEx (.pointer (some ⟨b3_1,0,none⟩))),(8,aInt (rgB r)),(9,aInt (rgA r)),(10,aEx (vec rr3 (((unsM r ws).take i.toNat).length) cc3)),(11,aInt i),(13,aSl 1 false aInts (encW r (unI (rgB r) i))),(14,aEx (vec rr6 ((flo (fun u=>ix [] (encW r (unI (rgB r) i)) (ix 0 ws u)) j.toNat).length) cc6)),(15,aInt j)],[oVec rr6 cc6 3 1 false aInt (flo (fun u=>ix [] (encW r (unI (rgB r) i)) (ix 0 ws u)) j.toNat),oVec rr3 cc3 29 1 false aInts ((unsM r ws).take i.toNat),oBox b3_1 53 [aInt r.F.P,aInt r.F.M,aSl 1 false aInt r.F.mod,aInt r.Kind,aInt r.K,aInt r.D,aSl 1 false aInt r.Points]]⟩:St)) (fun (ss:Int×Option Nat×Nat)=>match ss with | (j,rr6,cc6)=>(0<=j)/\(j<=ws.length)) (fun (ss:Int×Option Nat×Nat)=>match ss with | (j,rr6,cc6)=>(ws.length-j).toNat) (0,none,0) ⟨(by omega),(by omega)⟩ (A_J ⟨rfl,rfl,rfl,rfl,rfl,rfl,rfl,rfl,A_Q ((show aEx (vec none ([]:List _).length 0)=aEx (vec none ((flo (fun u=>ix [] (encW r (unI (rgB r) i)) (ix 0 ws u)) (0:Int).toNat).length) 0) from B_J (congrArg List.length (show flo (fun u=>ix [] (encW r (unI (rgB r) i)) (ix 0 ws u)) (0:Int).toNat = [] by rfl).symm))),A_Q (A_k (show 0=(0:Int) by rfl)),trivial⟩ (A_G (A_e (show flo (fun u=>ix [] (encW r (unI (rgB r) i)) (ix 0 ws u)) (0:Int).toNat = [] by rfl)) (rfl))) ?_
  rintro ⟨j,rr6,cc6⟩ ⟨j0,j1⟩
  show Ent _ ⟨_,[_,_,_]⟩ _
  have lt2:=RW.c1 i j j0 (by omega)
  refine A_C fun _ K15=>esr rfl fun _ K16=>A_A rfl (A_5 rfl runUnderlying29 rfl) <|A_A rfl (A_m rfl rfl) <|enk K16 ?_
  refine A_H rfl (fun h46=>?_) (fun h46=>?_)
  ·have hw:=RW.w j j0 h46
   have hr1:=RW.e1 i j j0 (by omega)
   refine esp K15 <|A_C fun _ K17=>A_I <|A_F <|emm rfl <|A_A rfl (A_W 0 sl29 rfl rfl) <|A_A rfl (A_P ti3 rfl) <|A_A rfl (A_W [] sl65 rfl rfl) <|A_A rfl (A_P ti29 rfl) <|B_P (k:=0) rfl vt29 rfl rfl rfl rfl (A_y A_h) (by omega) (by omega) fun r57_6 cr57_6=>emm rfl <|enk K17 <|A_F <|emm rfl <|A_A rfl (A_g rfl rfl) <|emm rfl <|A_O ?_
   refine A_T (s:=(j,rr6,cc6)) (j+1,r57_6,cr57_6) ⟨(by omega),‹_›⟩ (by dsimp only;omega) (A_J ⟨rfl,rfl,rfl,rfl,rfl,rfl,rfl,rfl,A_Q (B_J (congrArg List.length (show flo (fun u=>ix [] (encW r (unI (rgB r) i)) (ix 0 ws u)) (j+1).toNat=(flo (fun u=>ix [] (encW r (unI (rgB r) i)) (ix 0 ws u)) j.toNat)++(ix [] (encW r (unI (rgB r) i)) (ix 0 ws j)) by exact D_Z _ j0).symm)),rfl,trivial⟩ (A_G (A_e (show flo (fun u=>ix [] (encW r (unI (rgB r) i)) (ix 0 ws u)) (j+1).toNat=(flo (fun u=>ix [] (encW r (unI (rgB r) i)) (ix 0 ws u)) j.toNat)++(ix [] (encW r (unI (rgB r) i)) (ix 0 ws j)) by exact D_Z _ j0)) (rfl)))
  refine A_Z <|A_1 K13 <|A_F <|emm rfl <|B_t 0 59 rfl (B_g (k:=0) (B_h rfl) rfl rfl) <|B_Q (k:=0) (enc:=aInts) (y:=flo (fun u=>ix [] (encW r (unI (rgB r) i)) (ix 0 ws u)) j.toNat) rfl rfl vt65 rfl rfl rfl rfl ((A_n A_j)) (by omega) (by omega) (by decide) fun b61_8 c61_8=>emm rfl <|enk K8 <|A_F <|emm rfl <|A_A rfl (A_g rfl rfl) <|emm rfl <|A_O ?_
  refine A_T (s:=(i,rr3,cc3)) (i+1,(some b61_8),c61_8) ⟨(by omega),‹_›⟩ (by dsimp only;omega) (A_J ⟨rfl,rfl,rfl,rfl,rfl,A_Q (B_J (congrArg List.length (show (unsM r ws).take (i+1).toNat=((unsM r ws).take i.toNat)++[flo (fun u=>ix [] (encW r (unI (rgB r) i)) (ix 0 ws u)) j.toNat] by exact uns_succ hwl h0 h32 (by omega)).symm)),rfl,trivial⟩ (A_G (A_e (show (unsM r ws).take (i+1).toNat=((unsM r ws).take i.toNat)++[flo (fun u=>ix [] (encW r (unI (rgB r) i)) (ix 0 ws u)) j.toNat] by exact uns_succ hwl h0 h32 (by omega))) (rfl)))
 have ht10:(unsM r ws).take i.toNat=(unsM r ws):=t_L (by omega)
 refine A_Z <|A_1 K4 <|esk rfl <|A_C fun _ K19=>esk rfl <|A_I <|B_U 3 1 false aInt (fun _=>rfl) <|A_Y (fun (ss:Int×Option Nat×Nat)=>match ss with | (k,rr10,cc10)=>(⟨[(1,aSl 1 false aInt ws),(2,aSl 1 false aInts cs),(3,aEx (.pointer (some ⟨b3_1,0,none⟩))),(8,aInt (rgB r)),(9,aInt (rgA r)),(10,aEx (vec rr3 (((unsM r ws).take i.toNat).length) cc3)),(16,aEx (vec rr10 ((flo (fun u=>ix [] cs u) k.toNat).length) cc10)),(17,aInt k)],[oVec rr10 cc10 3 1 false aInt (flo (fun u=>ix [] cs u) k.toNat),oVec rr3 cc3 29 1 false aInts ((unsM r ws).take i.toNat),oBox b3_1 53 [aInt r.F.P,aInt r.F.M,aSl 1 false aInt r.F.mod,aInt r.Kind,aInt r.K,aInt r.D,aSl 1 false aInt r.Points]]⟩:St)) (fun (ss:Int×Option Nat×Nat)=>match ss with | (k,rr10,cc10)=>(0<=k)/\(k<=ws.length)) (fun (ss:Int×Option Nat×Nat)=>match ss with | (k,rr10,cc10)=>(ws.length-k).toNat) (0,none,0) ⟨(by omega),(by omega)⟩ (A_J ⟨rfl,rfl,rfl,rfl,rfl,rfl,A_Q ((show aEx (vec none ([]:List _).length 0)=aEx (vec none ((flo (fun u=>ix [] cs u) (0:Int).toNat).length) 0) from B_J (congrArg List.length (show flo (fun u=>ix [] cs u) (0:Int).toNat = [] by rfl).symm))),A_Q (A_k (show 0=(0:Int) by rfl)),trivial⟩ (A_G (A_e (show flo (fun u=>ix [] cs u) (0:Int).toNat = [] by rfl)) (rfl))) ?_
 rintro ⟨k,rr10,cc10⟩ ⟨k0,k1⟩
 show Ent _ ⟨_,[_,_,_]⟩ _
 have lt3:=RW.c2 k k0 (by omega)
 refine A_C fun _ K21=>esr rfl fun _ K22=>A_A rfl (A_5 rfl runUnderlying29 rfl) <|A_A rfl (A_m rfl rfl) <|enk K22 ?_
 refine A_H rfl (fun h65=>?_) (fun h65=>?_)
 ·have hr2:=RW.e2 k k0 (by omega)
  refine esp K21 <|A_C fun _ K23=>A_I <|A_F <|emm rfl <|A_A rfl (A_W [] sl65 rfl rfl) <|A_A rfl (A_P ti29 rfl) <|B_P (k:=0) rfl vt29 rfl rfl rfl rfl (A_y A_h) (by omega) (by omega) fun r73_10 cr73_10=>emm rfl <|enk K23 <|A_F <|emm rfl <|A_A rfl (A_g rfl rfl) <|emm rfl <|A_O ?_
  refine A_T (s:=(k,rr10,cc10)) (k+1,r73_10,cr73_10) ⟨(by omega),‹_›⟩ (by dsimp only;omega) (A_J ⟨rfl,rfl,rfl,rfl,rfl,rfl,A_Q (B_J (congrArg List.length (show flo (fun u=>ix [] cs u) (k+1).toNat=(flo (fun u=>ix [] cs u) k.toNat)++(ix [] cs k) by exact D_Z _ k0).symm)),rfl,trivial⟩ (A_G (A_e (show flo (fun u=>ix [] cs u) (k+1).toNat=(flo (fun u=>ix [] cs u) k.toNat)++(ix [] cs k) by exact D_Z _ k0)) (rfl)))
 have ht16:flo (fun u=>ix [] cs u) k.toNat=(rowL cs r.K.toNat):=by rw [show k=r.K by omega];rfl
 refine A_Z <|A_1 K19 <|A_C fun _ K24=>?_
 rw [ht10,ht16]
 refine B_t 1 10 rfl (B_g (k:=1) (B_h rfl) rfl rfl) <|B_t 0 16 rfl (B_g (k:=0) (B_h rfl) rfl rfl) <|A_F <|emm rfl <|A_A rfl (A_5 rfl runUnderlying29 rfl) <|A_A rfl (B_2 rfl rfl) <|A_A rfl (B_x (rTurn_ok (unsM r ws) (rgA r*r.K) (by omega) (by omega) RW.ur (by omega)) ⟨A_z rfl (A_y A_h),A_z rfl (A_b ‹_›),trivial⟩) <|emm rfl <|enk K24 <|esk rfl <|A_C fun _ K26=>esk rfl <|A_I <|B_U 29 1 false aInts (fun _=>rfl) <|A_Y (fun (ss:Int×Option Nat×Nat)=>match ss with | (p,rr13,cc13)=>(⟨[(3,aEx (.pointer (some ⟨b3_1,0,none⟩))),(8,aInt (rgB r)),(16,aSl 1 false aInt (rowL cs r.K.toNat)),(18,aSl 1 false aInts (eqsM r ws)),(19,aEx (vec rr13 (((augL (eqsM r ws) (rowL cs r.K.toNat)).take p.toNat).length) cc13)),(20,aInt p)],[oVec rr13 cc13 29 1 false aInts ((augL (eqsM r ws) (rowL cs r.K.toNat)).take p.toNat),oBox b3_1 53 [aInt r.F.P,aInt r.F.M,aSl 1 false aInt r.F.mod,aInt r.Kind,aInt r.K,aInt r.D,aSl 1 false aInt r.Points]]⟩:St)) (fun (ss:Int×Option Nat×Nat)=>match ss with | (p,rr13,cc13)=>(0<=p)/\(p<=(eqsM r ws).length)) (fun (ss:Int×Option Nat×Nat)=>match ss with | (p,rr13,cc13)=>((eqsM r ws).length-p).toNat) (0,none,0) ⟨(by omega),(by omega)⟩ (A_J ⟨rfl,rfl,rfl,A_Q (F_6 (show turnL (unsM r ws) (rgA r*r.K)=eqsM r ws by rfl)),A_Q ((show aEx (vec none ([]:List _).length 0)=aEx (vec none (((augL (eqsM r ws) (rowL cs r.K.toNat)).take (0:Int).toNat).length) 0) from B_J (congrArg List.length (show (augL (eqsM r ws) (rowL cs r.K.toNat)).take (0:Int).toNat = [] by rfl).symm))),A_Q (A_k (show 0=(0:Int) by rfl)),trivial⟩ (A_G (A_e (show (augL (eqsM r ws) (rowL cs r.K.toNat)).take (0:Int).toNat = [] by rfl)) (rfl))) ?_
 rintro ⟨p,rr13,cc13⟩ ⟨p0,p1⟩
 show Ent _ ⟨_,[_,_]⟩ _
 have lt4:((augL (eqsM r ws) (rowL cs r.K.toNat)).take p.toNat).length=p.toNat:=by rw [List.length_take,B_K];omega
 refine A_C fun _ K28=>esr rfl fun _ K29=>A_A rfl (A_5 rfl runUnderlying65 rfl) <|A_A rfl (A_m rfl rfl) <|enk K29 ?_
 refine A_H rfl (fun h83=>?_) (fun h83=>?_)
 ·have hr3:=RW.er p p0 (by omega)
  refine esp K28 <|A_C fun _ K30=>A_I ?_
  refine ent_drawV1A (e:=3) (enc:=aInt) (xs:=ix [] (eqsM r ws) p) (ys:=[ix 0 (rowL cs r.K.toNat) p]) (dy:=97) 12 [0] 92 [(19,aEx (vec rr13 (((augL (eqsM r ws) (rowL cs r.K.toNat)).take p.toNat).length) cc13)),(86,aEx (vec rr13 (((augL (eqsM r ws) (rowL cs r.K.toNat)).take p.toNat).length) cc13))] [(3,aEx (.pointer (some ⟨b3_1,0,none⟩))),(8,aInt (rgB r)),(16,aSl 1 false aInt (rowL cs r.K.toNat)),(18,aSl 1 false aInts (eqsM r ws)),(20,aInt p)] mixed (by kernel_rfl) (by kernel_rfl) (by kernel_rfl) (by kernel_rfl) (by kernel_rfl) (fun _ _ _ _ _ h=>h) rfl rfl vt29 B_j (by simp [A_N]) (AllPlS.mem ⟨D_U,D_U,trivial⟩) ⟨rfl,rfl,rfl,rfl,rfl,trivial⟩ (by kernel_rfl) read_sl (by simp;omega) (by simp;omega) (fun w=>?_) (fun ra_14 ca_14 r0 c0=>?_)
  ·refine dw_o rfl (A_D rfl) <|dw_o rfl (ok_build0F vt29) <|dw_o rfl (A_D rfl) <|dw_o rfl (A_D rfl) <|dw_o rfl (A_W [] sl65 rfl rfl) <|dw_o rfl (A_P ti29 rfl) <|dw_o rfl (ok_append0F vt29 (fun _=>D_U) rfl rfl (A_y A_h) (by omega) (by omega)) <|dw_o rfl (A_D rfl) <|dw_o rfl (A_D rfl) <|dw_o rfl (A_W 0 sl29 rfl rfl) <|dw_o rfl (A_P ti3 rfl) <|dw_o rfl (C_Z (enc:=aInt) (y:=ix 0 (rowL cs r.K.toNat) p) vt29 rfl (A_n (A_N _))) ?_
   exact ⟨rfl,rfl,⟨rfl,rfl,trivial⟩⟩
  refine B_t 0 98 rfl (B_g (k:=0) (B_h rfl) rfl rfl) <|B_Q (k:=0) (enc:=aInts) (y:=(ix [] (eqsM r ws) p)++[ix 0 (rowL cs r.K.toNat) p]) rfl rfl vt65 rfl rfl rfl rfl ((A_n A_j)) (by omega) (by omega) (by decide) fun b100_15 c100_15=>emm rfl <|enk K30 <|A_F <|emm rfl <|A_A rfl (A_g rfl rfl) <|emm rfl <|A_O ?_
  refine A_T (s:=(p,rr13,cc13)) (p+1,(some b100_15),c100_15) ⟨(by omega),‹_›⟩ (by dsimp only;omega) (A_J ⟨rfl,rfl,rfl,rfl,A_Q (B_J (congrArg List.length (show (augL (eqsM r ws) (rowL cs r.K.toNat)).take (p+1).toNat=((augL (eqsM r ws) (rowL cs r.K.toNat)).take p.toNat)++[(ix [] (eqsM r ws) p)++[ix 0 (rowL cs r.K.toNat) p]] by rw [B_A [] (augL (eqsM r ws) (rowL cs r.K.toNat)) p0 (by rw [B_K];omega),ix_augL p0 (by omega)]).symm)),rfl,trivial⟩ (A_G (A_e (show (augL (eqsM r ws) (rowL cs r.K.toNat)).take (p+1).toNat=((augL (eqsM r ws) (rowL cs r.K.toNat)).take p.toNat)++[(ix [] (eqsM r ws) p)++[ix 0 (rowL cs r.K.toNat) p]] by rw [B_A [] (augL (eqsM r ws) (rowL cs r.K.toNat)) p0 (by rw [B_K];omega),ix_augL p0 (by omega)])) (rfl)))
 have ht19:(augL (eqsM r ws) (rowL cs r.K.toNat)).take p.toNat=(augL (eqsM r ws) (rowL cs r.K.toNat)):=t_L (by rw [B_K];omega)
 refine A_Z <|A_1 K26 <|A_C fun _ K31=>?_
 rw [ht19]
 refine B_t 0 19 rfl (B_g (k:=0) (B_h rfl) rfl rfl) <|A_F <|A_A rfl (A_B runUnderlying53 rfl sizeOf51 (by decide) rfl) <|A_A rfl (A_S (k:=0) ti51 rfl rfl rfl) <|emm rfl <|A_A rfl (A_g rfl rfl) <|A_A rfl (A_X (rCanon_ok r.F (augL (eqsM r ws) (rowL cs r.K.toNat)) ((rgB r)+1) ((rgB r).toNat+1) ‹_› RW.ag (by omega) (by omega) (by omega) (by rw [B_K];omega)) rfl) <|emm rfl <|A_A rfl (A_V rfl rfl) <|A_A rfl (A_V rfl rfl) <|emm rfl <|enk K31 <|A_C fun _ K32=>A_C fun _ K33=>?_
 refine B_N (⟨[(8,aInt (rgB r)),(21,aSl 1 false aInts (canR (elim r.F (augL (eqsM r ws) (rowL cs r.K.toNat)) [] ((rgB r)+1).toNat))),(123,aBool (decide (((↑((elim r.F (augL (eqsM r ws) (rowL cs r.K.toNat)) [] ((rgB r)+1).toNat).piv).length:Int)≠(rgB r))\/((ix 0 ((elim r.F (augL (eqsM r ws) (rowL cs r.K.toNat)) [] ((rgB r)+1).toNat).piv) ((rgB r)-1))≠((rgB r)-1)))))],[oBox b3_1 53 [aInt r.F.P,aInt r.F.M,aSl 1 false aInt r.F.mod,aInt r.Kind,aInt r.K,aInt r.D,aSl 1 false aInt r.Points]]⟩) ?_ ?_
 ·refine A_F <|emm rfl <|A_A rfl (A_5 rfl runUnderlying29 rfl) <|emm rfl <|A_A rfl (B_B rfl rfl) <|emm rfl ?_
  refine A_6 rfl rfl rfl rfl (fun hg114=>?_) (fun hg114=>?_)
  ·refine emm rfl <|A_M rfl rfl rfl rfl (d_F hg114) <|emm rfl <|A_M rfl rfl rfl rfl (d_F hg114) <|A_A rfl (B_L rfl rfl) <|A_M rfl rfl rfl rfl (d_F hg114) <|A_A rfl (A_W 0 sl29 rfl rfl) <|A_M rfl rfl rfl rfl (d_F hg114) <|A_A rfl (A_P ti3 rfl) <|A_M rfl rfl rfl rfl (d_F hg114) <|emm rfl <|A_M rfl rfl rfl rfl (d_F hg114) <|A_A rfl (B_L rfl rfl) <|A_M rfl rfl rfl rfl (d_F hg114) <|A_A rfl (B_B rfl rfl) <|A_A rfl (A_3 rfl (d_F hg114) rfl) <|A_O ?_
   exact A_J ⟨rfl,rfl,A_a (dq_Q ((or_iff_right hg114).trans Iff.rfl)),trivial⟩ rfl
  refine A_E rfl rfl rfl rfl (d_T hg114) <|A_E rfl rfl rfl rfl (d_T hg114) <|A_E rfl rfl rfl rfl (d_T hg114) <|A_E rfl rfl rfl rfl (d_T hg114) <|A_E rfl rfl rfl rfl (d_T hg114) <|A_E rfl rfl rfl rfl (d_T hg114) <|A_E rfl rfl rfl rfl (d_T hg114) <|A_A rfl (A_q rfl (d_T hg114) rfl) <|A_O ?_
  exact A_J ⟨rfl,rfl,A_a (dq_T rfl (Or.inl hg114)),trivial⟩ rfl
 refine A_1 K33 ?_
 refine A_H rfl (fun h123=>?_) (fun h123=>?_)
 ·have hre:refErr r ws cs=10:=i_P h123
  refine esk rfl <|A_R ?_
  exact retR2 (.inr rfl) results47 (A_L (A_U rfl (D_R (fun _=>rfl) (by exact (i_N (by rw [hre];decide)).symm)))) (A_L (A_U rfl (A_b (by exact hre.symm))))
 have hre:refErr r ws cs=0:=i_N h123
 have hpb:((refE r ws cs).piv.length:Int)=rgB r:=Classical.byContradiction fun h=>h123 (.inl h)
 have hpl:=RW.pl hpb
 refine esp K32 <|esk rfl <|A_C fun _ K36=>esk rfl <|A_I <|B_U 3 1 false aInt (fun _=>rfl) <|A_Y (fun (ss:Int×Option Nat×Nat)=>match ss with | (s,rr17,cc17)=>(⟨[(8,aInt (rgB r)),(21,aSl 1 false aInts (canR (refE r ws cs))),(23,aEx (vec rr17 ((mapR (fun u=>ix 0 (ix [] (canR (refE r ws cs)) u) (rgB r)) s).length) cc17)),(24,aInt s)],[oVec rr17 cc17 3 1 false aInt (mapR (fun u=>ix 0 (ix [] (canR (refE r ws cs)) u) (rgB r)) s),oBox b3_1 53 [aInt r.F.P,aInt r.F.M,aSl 1 false aInt r.F.mod,aInt r.Kind,aInt r.K,aInt r.D,aSl 1 false aInt r.Points]]⟩:St)) (fun (ss:Int×Option Nat×Nat)=>match ss with | (s,rr17,cc17)=>(0<=s)/\(s<=rgB r)) (fun (ss:Int×Option Nat×Nat)=>match ss with | (s,rr17,cc17)=>(rgB r-s).toNat) (0,none,0) ⟨(by omega),(by omega)⟩ (A_J ⟨rfl,A_Q (F_6 (show canR (elim r.F (augL (eqsM r ws) (rowL cs r.K.toNat)) [] ((rgB r)+1).toNat)=canR (refE r ws cs) by rfl)),A_Q ((show aEx (vec none ([]:List _).length 0)=aEx (vec none ((mapR (fun u=>ix 0 (ix [] (canR (refE r ws cs)) u) (rgB r)) (0:Int)).length) 0) from B_J (congrArg List.length (show mapR (fun u=>ix 0 (ix [] (canR (refE r ws cs)) u) (rgB r)) (0:Int) = [] by rfl).symm))),A_Q (A_k (show 0=(0:Int) by rfl)),trivial⟩ (A_G (A_e (show mapR (fun u=>ix 0 (ix [] (canR (refE r ws cs)) u) (rgB r)) (0:Int) = [] by rfl)) (rfl))) ?_
 rintro ⟨s,rr17,cc17⟩ ⟨s0,s1⟩
 show Ent _ ⟨_,[_,_]⟩ _
 have lt5:=A_x (fun u=>ix 0 (ix [] (canR (refE r ws cs)) u) (rgB r)) s
 refine A_C fun _ K38=>esr rfl fun _ K39=>A_A rfl (A_m rfl rfl) <|enk K39 ?_
 refine A_H rfl (fun h126=>?_) (fun h126=>?_)
 ·have hcr:=RW.cr hpb s s0 h126
  refine esp K38 <|A_C fun _ K40=>A_I <|A_F <|emm rfl <|A_A rfl (A_W [] sl65 rfl rfl) <|A_A rfl (A_P ti29 rfl) <|emm rfl <|A_A rfl (A_W 0 sl29 rfl rfl) <|A_A rfl (A_P ti3 rfl) <|B_Q (k:=0) (enc:=aInt) (y:=ix 0 (ix [] (canR (refE r ws cs)) s) (rgB r)) rfl rfl vt29 rfl rfl rfl rfl ((A_n (A_N _))) (by omega) (by omega) (by decide) fun b138_18 c138_18=>emm rfl <|enk K40 <|A_F <|emm rfl <|A_A rfl (A_g rfl rfl) <|emm rfl <|A_O ?_
  refine A_T (s:=(s,rr17,cc17)) (s+1,(some b138_18),c138_18) ⟨(by omega),‹_›⟩ (by dsimp only;omega) (A_J ⟨rfl,rfl,A_Q (B_J (congrArg List.length (show mapR (fun u=>ix 0 (ix [] (canR (refE r ws cs)) u) (rgB r)) (s+1)=(mapR (fun u=>ix 0 (ix [] (canR (refE r ws cs)) u) (rgB r)) s)++[ix 0 (ix [] (canR (refE r ws cs)) s) (rgB r)] by exact D_m _ s0).symm)),rfl,trivial⟩ (A_G (A_e (show mapR (fun u=>ix 0 (ix [] (canR (refE r ws cs)) u) (rgB r)) (s+1)=(mapR (fun u=>ix 0 (ix [] (canR (refE r ws cs)) u) (rgB r)) s)++[ix 0 (ix [] (canR (refE r ws cs)) s) (rgB r)] by exact D_m _ s0)) (rfl)))
 refine A_Z <|A_1 K36 <|esk rfl <|A_R ?_
 exact retR2 (.inr rfl) results47 (A_L (A_U rfl (B_g (k:=0) (D_3 rfl) rfl (by rw [show s=rgB r by omega];exact (i_P hre).symm)))) (A_L (A_U rfl (A_b (by exact hre.symm))))
end Go.Proofs.Ytaipghchkamajaa

