/-
  Walks.
-/
import Derived.Test.YtaipghchkamajaaA10
import Derived.Test.YtaipghchkamajaaB1
open Go Go.Cw
namespace Go.Proofs.Ytaipghchkamajaa
open Try
set_option maxRecDepth 100000
set_option linter.unusedVariables false
set_option linter.unusedSimpArgs false
theorem D_9 (R C:Int) (hR0:0<=R:=by omega) (hR1:R<=1000:=by omega) (hC0:0<=C:=by omega) (hC1:C<=1000:=by omega):CtrW Try.prog 96 [] [aInt R,aInt C] (fun (y:Option Nat×Nat×List Hdr)=>match y with | (r,c,Hs)=>Hs.length=R.toNat) (fun (y:Option Nat×Nat×List Hdr)=>match y with | (r,c,Hs)=>aEx (vec r Hs.length c)) (fun (y:Option Nat×Nat×List Hdr)=>match y with | (r,c,Hs)=>[oVec r c 29 1 false aH Hs,oRws 3 aInt [] Hs (mkM R C (fun _ _=>0))]):=by
 refine D_I Try.call96 func96 rfl rfl ?_
 intro w O
 refine esk rfl <|esk rfl <|A_C fun _ K3=>esk rfl <|A_I <|B_U 29 1 false aH (fun _=>rfl) <|ent_rows0 3 aInt <|A_Y (fun (ss:Int×List Hdr×Option Nat×Nat)=>match ss with | (i,Hs,rr2,cc2)=>(⟨[(1,aInt C),(5,aEx (vec rr2 ((Hs).length) cc2)),(6,aInt R),(7,aInt i)],[oRws 3 aInt [] Hs (List.replicate i.toNat (List.replicate C.toNat (0:Int))),oVec rr2 cc2 29 1 false aH Hs]⟩:St)) (fun (ss:Int×List Hdr×Option Nat×Nat)=>match ss with | (i,Hs,rr2,cc2)=>(0<=i)/\(i<=R)/\((Hs.length:Int)=i)) (fun (ss:Int×List Hdr×Option Nat×Nat)=>match ss with | (i,Hs,rr2,cc2)=>(R-i).toNat) (0,[],none,0) ⟨(by omega),‹_›,rfl⟩ (A_J ⟨rfl,A_Q ((show aEx (vec none ([]:List _).length 0)=aEx (vec none (([]).length) 0) from B_J (congrArg List.length (show [] = [] by rfl).symm))),rfl,A_Q (A_k (show 0=(0:Int) by rfl)),trivial⟩ (A_G (A_4 rfl (show List.replicate (0:Int).toNat (List.replicate C.toNat (0:Int)) = [] by rfl)) (rfl))) ?_
 rintro ⟨i,Hs,rr2,cc2⟩ ⟨h0,h1,hH⟩
 show Ent _ ⟨_,[_,_]⟩ _
 refine esr rfl fun _ K5=>A_A rfl (A_m rfl rfl) <|enk K5 <|A_C fun _ K6=>?_
 refine A_H rfl (fun h8=>?_) (fun h8=>?_)
 ·refine esp K6 <|A_C fun _ K7=>A_I <|A_F <|emm rfl <|B_1 aInt 0 rfl vt29 rfl rfl (by omega) (by omega) (by omega) (fun _ _=>rfl) (AllV.mem ⟨rfl,trivial⟩) fun b11_3=>B_Q (k:=2) (enc:=aH) (y:=⟨(some b11_3),(C).toNat,(C).toNat⟩) rfl rfl vt65 rfl rfl rfl rfl ((A_n (B_b rfl))) (by omega) (by omega) (by decide) fun b13_4 c13_4=>ent_pushRow 1 0 (m:=(C).toNat) rfl rfl (by decide) (by simp) <|emm rfl <|enk K7 <|A_F <|A_A rfl (A_g rfl rfl) <|emm rfl <|A_O ?_
  refine A_T (s:=(i,Hs,rr2,cc2)) (i+1,Hs++[⟨(some b11_3),(C).toNat,(C).toNat⟩],(some b13_4),c13_4) ⟨(by omega),‹_›,(by simp;omega)⟩ (by dsimp only;omega) (A_J ⟨rfl,A_Q (B_J (congrArg List.length (show (Hs++[⟨(some b11_3),(C).toNat,(C).toNat⟩])=Hs++[⟨(some b11_3),(C).toNat,(C).toNat⟩] by rfl).symm)),rfl,rfl,trivial⟩ (A_G (A_4 (show (Hs++[⟨(some b11_3),(C).toNat,(C).toNat⟩])=Hs++[⟨(some b11_3),(C).toNat,(C).toNat⟩] by rfl) (show List.replicate (i+1).toNat (List.replicate C.toNat (0:Int))=(List.replicate i.toNat (List.replicate C.toNat (0:Int)))++[List.replicate ((C).toNat) 0] by rw [show (i+1).toNat=i.toNat+1 by omega,List.replicate_succ'])) (rfl)))
 refine A_Z <|A_1 K3 <|esk rfl <|A_R <|C_n 2 [0,1] rfl (by decide) rfl ?_
 exact retW (.inr rfl) (rr2,cc2,Hs) ((by omega)) ((show ([oVec rr2 cc2 29 1 false aH Hs,oRws 3 aInt [] Hs (mkM R C (fun _ _=>0))]:List Own) = [oVec rr2 cc2 29 1 false aH Hs,oRws 3 aInt [] Hs (List.replicate i.toNat (List.replicate C.toNat (0:Int)))] from (A_G (rfl) (A_G (A_4 rfl (show mkM R C (fun _ _=>0)=List.replicate i.toNat (List.replicate C.toNat (0:Int)) by rw [show i=R by omega,mkM_zero])) (rfl)))).symm) (resW1 results96 (A_L (A_U rfl (D_S (show vec rr2 ((Hs).length) cc2=vec rr2 Hs.length cc2 by rfl)))))

theorem E_f (r:Option Nat) (cap:Nat) (Hs:List Hdr) (R n:Int) (l:List Int) (hn0:0<=n) (hnR:n<=R) (hR1:R<=1000) (hH:Hs.length=R.toNat) (hl:tri n n.toNat<=l.length):CtrW Try.prog 97 [oVec r cap 29 1 false aH Hs,oRws 3 aInt [] Hs (mkM R R (fun _ _=>0))] [aEx (vec r Hs.length cap),aInt n,aSl 1 false aInt l] (fun (_:Unit)=>True) (fun (_:Unit)=>aSl 1 false aInt (List.drop (tri n n.toNat).toNat l)) (fun (_:Unit)=>[oVec r cap 29 1 false aH Hs,oRws 3 aInt [] Hs (mkM R R (symE l n n n))]):=by
 refine D_I Try.call97 func97 rfl rfl ?_
 intro w O
 refine B_D 2 rfl fun hlen2=>esk rfl <|A_C fun _ K2=>esk rfl <|A_I <|A_Y (fun (i:Int)=>(⟨[(0,aEx (vec r Hs.length cap)),(1,aInt n),(2,aSl 1 false aInt (List.drop (tri n i.toNat).toNat l)),(9,aInt n),(10,aInt i)],[oVec r cap 29 1 false aH Hs,oRws 3 aInt [] Hs (mkM R R (symE l n i i))]⟩:St)) (fun (i:Int)=>(0<=i)/\(i<=n)) (fun (i:Int)=>(n-i).toNat) 0 ⟨(by omega),‹_›⟩ (A_J ⟨rfl,rfl,A_Q (F_6 (show l=List.drop (tri n (0:Int).toNat).toNat l by simp [tri])),rfl,A_Q (A_k (show 0=(0:Int) by rfl)),trivial⟩ (A_G (rfl) (A_G (A_4 rfl (show mkM R R (symE l n (0:Int) (0:Int))=mkM R R (fun _ _=>0) by exact (symE_zero R l n).symm)) (rfl)))) ?_
 rintro i ⟨h0,h1⟩
 show Ent _ ⟨_,[_,_]⟩ _
 refine esr rfl fun _ K4=>A_A rfl (A_m rfl rfl) <|enk K4 <|A_C fun _ K5=>?_
 refine A_H rfl (fun h11=>?_) (fun h11=>?_)
 ·refine esp K5 <|A_C fun _ K6=>A_I <|esk rfl <|esk rfl <|A_I <|A_Y (fun (j:Int)=>(⟨[(0,aEx (vec r Hs.length cap)),(1,aInt n),(2,aSl 1 false aInt (List.drop (tri n i.toNat+(j-i)).toNat l)),(7,aInt i),(8,aInt j),(9,aInt n),(10,aInt i)],[oVec r cap 29 1 false aH Hs,oRws 3 aInt [] Hs (mkM R R (symE l n i j))]⟩:St)) (fun (j:Int)=>(i<=j)/\(j<=n)) (fun (j:Int)=>(n-j).toNat) i ⟨(by omega),‹_›⟩ (A_J ⟨rfl,rfl,A_Q (F_6 (show List.drop (tri n i.toNat).toNat l=List.drop (tri n i.toNat+(i-i)).toNat l by rw [show tri n i.toNat+(i-i)=tri n i.toNat by omega])),rfl,rfl,rfl,rfl,trivial⟩ rfl) ?_
  rintro j ⟨j0,j1⟩
  show Ent _ ⟨_,[_,_]⟩ _
  refine A_C fun _ K9=>esr rfl fun _ K10=>A_A rfl (A_m rfl rfl) <|enk K10 ?_
  refine A_H rfl (fun h16=>?_) (fun h16=>?_)
  ·have hj0:0<=j:=by omega
   have ht:=tri_lt h0 j0 h16
   have hld:(List.drop (tri n i.toNat+(j-i)).toNat l).length=l.length-(tri n i.toNat+(j-i)).toNat:=l_D
   have hMi:=C_Q (C:=R) (symE l n i j) h0 (show i<R by omega)
   have hMj:=C_Q (C:=R) (symE l n i j) hj0 (show j<R by omega)
   have hML:=A_v R R (symE l n i j)
   have hx:=ix_drop0 (l:=l) (k:=tri n i.toNat+(j-i)) (by omega)
   refine esp K9 <|A_C fun _ K11=>A_I <|A_C fun _ K12=>D_G 17 [5,6,7,9,13,14] mixed (by kernel_rfl) (by kernel_rfl) (by kernel_rfl) (by kernel_rfl) (by kernel_rfl) (fun _ _ _ _ _ h=>h) <|dw_o rfl (A_D rfl) <|dw_o rfl (A_D rfl) <|dw_o rfl (A_8 (k:=0) sl65 rfl rfl rfl rfl) <|dw_o rfl (B_O (k:=0) Hdr.no ti29 rfl rfl) <|dw_o rfl (A_D rfl) <|dw_o rfl (A_D rfl) <|dw_o rfl (A_D rfl) <|dw_o rfl (A_8 (k:=0) sl65 rfl rfl rfl rfl) <|dw_o rfl (B_O (k:=0) Hdr.no ti29 rfl rfl) <|dw_o rfl (A_D rfl) <|dw_o rfl (A_D rfl) <|dw_o rfl (A_W 0 sl29 rfl rfl) <|dw_o rfl (A_P ti3 rfl) <|dw_o rfl (A_D rfl) <|dw_o rfl (A_W 0 sl29 rfl rfl) <|dw_o rfl (A_P ti3 rfl) <|dw_o rfl (B_4 (k:=1) sl29 rfl rfl rfl (by omega) (by omega) (by exact List.not_mem_nil)) <|A_9 <|C_W (k:=1) (z:=ix 0 (List.drop (tri n i.toNat+(j-i)).toNat l) 0) ti3 rfl rfl rfl (A_n (A_N _)) (by omega) (by omega) (by omega) (by omega) <|A_A rfl (B_4 (k:=1) sl29 rfl rfl rfl (by omega) (by simp only [l_S,B_M _ _ _ h0 hj0,B_M,l_D,A_v];omega) (by exact List.not_mem_nil) (by omega) (by simp only [l_S,B_M _ _ _ h0 hj0,B_M,l_D,A_v];omega)) <|C_W (k:=1) (z:=ix 0 (List.drop (tri n i.toNat+(j-i)).toNat l) 0) ti3 rfl rfl rfl (A_n (A_N _)) (by omega) (by simp only [l_S,B_M _ _ _ h0 hj0,B_M,l_D,A_v];omega) (by omega) (by simp only [l_S,B_M _ _ _ h0 hj0,B_M,l_D,A_v];omega) <|enk K12 <|A_F <|emm rfl <|A_A rfl (C_F sl29 rfl rfl) ?_
   refine emm rfl <|enk K11 <|A_F <|emm rfl <|A_A rfl (A_g rfl rfl) <|emm rfl <|A_O ?_
   refine A_T (s:=(j)) (j+1) ⟨(by omega),‹_›⟩ (by omega) (A_J ⟨rfl,rfl,A_Q (F_6 (show List.drop (1:Int).toNat (List.drop (tri n i.toNat+(j-i)).toNat l)=List.drop (tri n i.toNat+((j+1)-i)).toNat l by rw [List.drop_drop];congr 1;omega)),rfl,rfl,rfl,rfl,trivial⟩ (A_G (rfl) (A_G (A_4 rfl (show mkM R R (symE l n i (j+1))=List.set (List.set (mkM R R (symE l n i j)) (i).toNat (List.set (ix [] (mkM R R (symE l n i j)) i) (j).toNat (ix 0 (List.drop (tri n i.toNat+(j-i)).toNat l) 0))) (j).toNat (List.set (ix [] (List.set (mkM R R (symE l n i j)) (i).toNat (List.set (ix [] (mkM R R (symE l n i j)) i) (j).toNat (ix 0 (List.drop (tri n i.toNat+(j-i)).toNat l) 0))) j) (i).toNat (ix 0 (List.drop (tri n i.toNat+(j-i)).toNat l) 0)) by exact (symE_step h0 j0 h16 hnR hx).symm)) (rfl))))
  refine A_Z <|A_1 K6 <|A_F <|A_A rfl (A_g rfl rfl) <|emm rfl <|A_O ?_
  refine A_T (s:=(i)) (i+1) ⟨(by omega),‹_›⟩ (by omega) (A_J ⟨rfl,rfl,A_Q (F_6 (show List.drop (tri n i.toNat+(j-i)).toNat l=List.drop (tri n (i+1).toNat).toNat l by rw [show j=n by omega,tri_succ h0])),rfl,rfl,trivial⟩ (A_G (rfl) (A_G (A_4 rfl (show mkM R R (symE l n (i+1) (i+1))=mkM R R (symE l n i j) by rw [show j=n by omega];exact (symE_row R l n i).symm)) (rfl))))
 refine A_Z <|A_1 K2 <|esk rfl <|A_R ?_
 exact retW (.inr rfl) () (trivial) ((show ([oVec r cap 29 1 false aH Hs,oRws 3 aInt [] Hs (mkM R R (symE l n n n))]:List Own) = [oVec r cap 29 1 false aH Hs,oRws 3 aInt [] Hs (mkM R R (symE l n i i))] from (A_G (rfl) (A_G (A_4 rfl (show mkM R R (symE l n n n)=mkM R R (symE l n i i) by rw [show i=n by omega])) (rfl)))).symm) (resW1 results97 (A_L (A_U rfl (C_r A_h (by rw [show i=n by omega])))))
end Go.Proofs.Ytaipghchkamajaa

