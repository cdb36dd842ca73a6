/-
  Walks.
-/
import Derived.Test.YtaipghchkamajaaA7
import Derived.Test.YtaipghchkamajaaA9
open Go Go.Cw
namespace Go.Proofs.Ytaipghchkamajaa
open Try
set_option maxRecDepth 100000
set_option linter.unusedVariables false
set_option linter.unusedSimpArgs false
theorem elements_ok (f:Fld) (l:List Int) (n:Int)  : Ctr Try.prog 60 [aGF f,aSl 1 false aInt l,aInt n] (aInt (lenErr f l n)):=by
 refine B_E Try.call60 func60 rfl rfl ?_
 intro w O
 refine A_0 0 4 rfl rfl fun hlen0_4=>A_0 0 5 rfl rfl fun hlen0_5=>B_D 1 rfl fun hlen1=>esk rfl <|A_C fun _ K2=>esr rfl fun _ K3=>A_A rfl (A_5 rfl runUnderlying29 rfl) <|emm rfl <|A_A rfl (B_B rfl rfl) <|enk K3 ?_
 refine A_H rfl (fun h12=>?_) (fun h12=>?_)
 ·refine esk rfl <|A_R ?_
  exact retR1 (.inr rfl) results60 (A_L (A_U rfl (A_b (by unfold lenErr;rw [i_P h12]))))
 refine esp K2 <|A_C fun _ K5=>esr rfl fun _ K6=>A_A rfl (A_5 rfl runUnderlying29 rfl) <|emm rfl <|enk K6 <|A_I <|A_Y (fun (i:Int)=>(⟨[(0,aGF f),(13,aSl 1 false aInt l),(14,aInt (↑l.length:Int)),(15,aInt i)],[]⟩:St)) (fun (i:Int)=>(0<=i)/\(i<=l.length)/\(¬outF f (l.take i.toNat))) (fun (i:Int)=>(l.length-i).toNat) 0 ⟨(by omega),(by omega),(by simp [outF])⟩ (A_J ⟨rfl,rfl,rfl,A_Q (A_k (show 0=(0:Int) by rfl)),trivial⟩ rfl) ?_
 rintro i ⟨h0,h1,hn⟩
 show Ent _ ⟨_,[]⟩ _
 refine esr rfl fun _ K7=>A_A rfl (A_m rfl rfl) <|enk K7 <|A_C fun _ K8=>?_
 refine A_H rfl (fun h16=>?_) (fun h16=>?_)
 ·refine esp K8 <|A_C fun _ K9=>A_I <|esr rfl fun _ K10=>A_A rfl (A_W 0 sl29 rfl rfl) <|A_A rfl (A_P ti3 rfl) <|emm rfl <|enk K10 <|esr rfl fun _ K11=>A_A rfl (A_X (Is_ok f (ix 0 l i)) rfl) <|A_A rfl (E_O rfl) <|enk K11 ?_
  refine A_H rfl (fun h22=>?_) (fun h22=>?_)
  ·refine esk rfl <|A_R ?_
   exact retR1 (.inr rfl) results60 (A_L (A_U rfl (A_b (by unfold lenErr entErr;rw [i_N h12,i_P (outF_at h0 h16 h22)]))))
  refine esp K9 <|A_F <|A_A rfl (A_g rfl rfl) <|emm rfl <|A_O ?_
  refine A_T (s:=(i)) (i+1) ⟨(by omega),‹_›,(F_l h0 h16 hn (n_N h22))⟩ (by omega) (A_J ⟨rfl,rfl,rfl,rfl,trivial⟩ rfl)
 refine A_Z <|A_1 K5 <|esk rfl <|A_R ?_
 exact retR1 (.inr rfl) results60 (A_L (A_U rfl (A_b (by unfold lenErr entErr;rw [i_N h12,i_N (by rw [t_L (by omega)] at hn;exact hn)]))))

theorem RgPowers_ok (f:Fld) (x n:Int) (hF:FOk f) (hn0:0<=n) (hn1:n<=64):CtrF Try.prog 62 [aGF f,aInt x,aInt n] (aVec 3 1 false aInt (powsF f x n)):=by
 refine C_x Try.call62 func62 rfl rfl ?_
 intro w O
 refine A_0 0 4 rfl rfl fun hlen0_4=>A_0 0 5 rfl rfl fun hlen0_5=>esk rfl <|esr rfl fun _ K2=>B_1 aInt 0 rfl vt29 rfl rfl (by omega) (by omega) (by omega) (fun _ _=>rfl) (AllV.mem ⟨rfl,trivial⟩) fun b10_1=>emm rfl <|enk K2 <|A_C fun _ K3=>esr rfl fun _ K4=>A_A rfl (B_T rfl runUnderlying29 rfl) <|emm rfl <|enk K4 <|A_I <|A_Y (fun (i:Int)=>(⟨[(0,aGF f),(1,aInt x),(7,aEx (vec (some b10_1) ((n).toNat) ((n).toNat))),(12,aInt (↑((n).toNat):Int)),(13,aInt i)],[oVec (some b10_1) ((n).toNat) 3 1 false aInt (fillR (powF f x) 0 n i)]⟩:St)) (fun (i:Int)=>(0<=i)/\(i<=n)) (fun (i:Int)=>(n-i).toNat) 0 ⟨(by omega),‹_›⟩ (A_J ⟨rfl,rfl,rfl,rfl,A_Q (A_k (show 0=(0:Int) by rfl)),trivial⟩ (A_G (A_e (show fillR (powF f x) 0 n (0:Int)=List.replicate ((n).toNat) 0 by exact fillR_zero _ _ _)) (rfl))) ?_
 rintro i ⟨h0,h1⟩
 show Ent _ ⟨_,[_]⟩ _
 have lf:=length_fillR (powF f x) 0 h0 h1
 refine esr rfl fun _ K5=>A_A rfl (A_m rfl rfl) <|enk K5 <|A_C fun _ K6=>?_
 refine A_H rfl (fun h14=>?_) (fun h14=>?_)
 ·refine esp K6 <|A_C fun _ K7=>A_I <|esk rfl <|A_F <|emm rfl <|A_A rfl (A_X (Pow_ok f x i ‹_›) rfl) <|emm rfl <|A_A rfl (A_V rfl rfl) <|A_A rfl (A_V rfl rfl) <|A_A rfl (A_s sl29 rfl rfl) <|B_C (k:=0) (z:=powF f x i) ti3 rfl rfl rfl (A_n (A_N _)) (by omega) (by omega) <|enk K7 <|A_F <|A_A rfl (A_g rfl rfl) <|emm rfl <|A_O ?_
  refine A_T (s:=(i)) (i+1) ⟨(by omega),(by omega)⟩ (by omega) (A_J ⟨rfl,rfl,rfl,rfl,rfl,trivial⟩ (A_G (A_e (show fillR (powF f x) 0 n (i+1)=List.set (fillR (powF f x) 0 n i) (i).toNat (powF f x i) by exact (fillR_set (powF f x) 0 h0 (show i<n by omega)).symm)) (rfl)))
 refine A_Z <|A_1 K3 <|esk rfl <|A_R ?_
 exact retR1 (.inr rfl) results62 (A_L (A_U rfl (C_7 (k:=0) B_j rfl rfl (by simp_all) (by rw [fillR_all (powF f x) 0 (show n<=i by omega),show i=n by omega];rfl))))

theorem rList_ok (f:Fld) (l:List Int) (n:Int)  : Ctr Try.prog 31 [aFld f,aSl 1 false aInt l,aInt n] (aInt (lenErr f l n)):=by
 refine B_E Try.call31 func31 rfl rfl ?_
 intro w O
 refine A_l 0 2 rfl rfl fun hlen0_2=>B_D 1 rfl fun hlen1=>esr rfl fun _ K1=>A_w rfl rfl (AllOne.mem ⟨(A_N _),(A_N _),A_j,trivial⟩) fun b3_1=>emm rfl <|enk K1 <|A_C fun _ K2=>esr rfl fun _ K3=>A_A rfl (A_5 rfl runUnderlying29 rfl) <|emm rfl <|A_A rfl (B_B rfl rfl) <|enk K3 ?_
 refine A_H rfl (fun h10=>?_) (fun h10=>?_)
 ·refine esk rfl <|A_R ?_
  exact retR1 (.inr rfl) results31 (A_L (A_U rfl (A_b (by unfold lenErr;rw [i_P h10]))))
 refine esp K2 <|esr rfl fun _ K5=>A_A rfl (A_S (k:=0) ti51 rfl rfl rfl) <|emm rfl <|A_A rfl (A_X (rEntries_ok f l) rfl) <|emm rfl <|enk K5 <|A_R ?_
 exact retR1 (.inr rfl) results31 (A_L (A_U rfl (A_b (by unfold lenErr;rw [i_N h10]))))

theorem rVector_ok (r:Rgn) (x:Int) (hS:Shape r.F) (hx0:0<=x) (hx1:x<r.Points.length) (hd0:0<=r.D) (hd1:r.D<=64):CtrF Try.prog 64 [aRgn r,aInt x] (aVec 3 1 false aInt (powsF r.F (ix 0 r.Points x) r.D)):=by
 refine C_x Try.call64 func64 rfl rfl ?_
 intro w O
 refine A_l 0 2 rfl rfl fun hlen0_2=>A_l 0 6 rfl rfl fun hlen0_6=>esr rfl fun _ K1=>A_w rfl rfl (AllOne.mem ⟨(A_N _),(A_N _),A_j,(A_N _),(A_N _),(A_N _),A_j,trivial⟩) fun b2_1=>emm rfl <|enk K1 <|esk rfl <|A_C fun _ K3=>esk rfl <|A_I <|B_U 3 1 false aInt (fun _=>rfl) <|A_Y (fun (ss:Int×Option Nat×Nat)=>match ss with | (i,rr3,cc3)=>(⟨[(1,aInt x),(2,aEx (.pointer (some ⟨b2_1,0,none⟩))),(5,aEx (vec rr3 ((powsF r.F (ix 0 r.Points x) i).length) cc3)),(6,aInt i)],[oVec rr3 cc3 3 1 false aInt (powsF r.F (ix 0 r.Points x) i),oBox b2_1 53 [aInt r.F.P,aInt r.F.M,aSl 1 false aInt r.F.mod,aInt r.Kind,aInt r.K,aInt r.D,aSl 1 false aInt r.Points]]⟩:St)) (fun (ss:Int×Option Nat×Nat)=>match ss with | (i,rr3,cc3)=>(0<=i)/\(i<=r.D)) (fun (ss:Int×Option Nat×Nat)=>match ss with | (i,rr3,cc3)=>(r.D-i).toNat) (0,none,0) ⟨(by omega),‹_›⟩ (A_J ⟨rfl,rfl,A_Q ((show aEx (vec none ([]:List _).length 0)=aEx (vec none ((powsF r.F (ix 0 r.Points x) (0:Int)).length) 0) from B_J (congrArg List.length (show powsF r.F (ix 0 r.Points x) (0:Int) = [] by rfl).symm))),A_Q (A_k (show 0=(0:Int) by rfl)),trivial⟩ (A_G (A_e (show powsF r.F (ix 0 r.Points x) (0:Int) = [] by rfl)) (rfl))) ?_
 rintro ⟨i,rr3,cc3⟩ ⟨h0,h1⟩
 show Ent _ ⟨_,[_,_]⟩ _
 have lf:(powsF r.F (ix 0 r.Points x) i).length=i.toNat:=A_x _ _
 refine A_C fun _ K5=>esr rfl fun _ K6=>A_A rfl (A_B runUnderlying53 rfl sizeOf3 (by decide) rfl) <|A_A rfl (A_K (k:=1) isAgg3 rfl rfl rfl) <|A_A rfl (A_m rfl rfl) <|enk K6 ?_
 refine A_H rfl (fun h10=>?_) (fun h10=>?_)
 ·refine esp K5 <|A_C fun _ K7=>A_I <|A_u 11 mixed (by kernel_rfl) (by kernel_rfl) (by kernel_rfl) <|dw_o rfl (A_D rfl) <|dw_o rfl (A_B runUnderlying53 rfl sizeOf51 (by decide) rfl) <|dw_o rfl (A_S (k:=1) ti51 rfl rfl rfl) <|dw_o rfl (A_B runUnderlying53 rfl sizeOf29 (by decide) rfl) <|dw_o rfl (A_K (k:=1) isAgg29 rfl rfl rfl) <|dw_o rfl (A_D rfl) <|dw_o rfl (A_W 0 sl29 rfl rfl) <|dw_o rfl (A_P ti3 rfl) <|dw_o rfl (A_D rfl) <|dw_o rfl (A_X (rpower_ok r.F (ix 0 r.Points x) i ‹_›) rfl) <|dw_o rfl (C_Z (enc:=aInt) (y:=powF r.F (ix 0 r.Points x) i) vt29 rfl (A_n (A_N _))) <|A_9 <|B_P (k:=0) rfl vt29 rfl rfl rfl rfl (A_y A_h) (by simp only [l_A,List.length_cons,List.length_nil];omega) (by simp only [l_A,List.length_cons,List.length_nil];omega) fun r24_3 cr24_3=>emm rfl <|enk K7 <|A_F <|emm rfl <|A_A rfl (A_g rfl rfl) <|emm rfl <|A_O ?_
  refine A_T (s:=(i,rr3,cc3)) (i+1,r24_3,cr24_3) ⟨(by omega),‹_›⟩ (by dsimp only;omega) (A_J ⟨rfl,rfl,A_Q (B_J (congrArg List.length (show powsF r.F (ix 0 r.Points x) (i+1)=(powsF r.F (ix 0 r.Points x) i)++[powF r.F (ix 0 r.Points x) i] by exact D_m _ h0).symm)),rfl,trivial⟩ (A_G (A_e (show powsF r.F (ix 0 r.Points x) (i+1)=(powsF r.F (ix 0 r.Points x) i)++[powF r.F (ix 0 r.Points x) i] by exact D_m _ h0)) (rfl)))
 refine A_Z <|A_1 K3 <|esk rfl <|A_R ?_
 exact retR1 (.inr rfl) results64 (A_L (A_U rfl (C_7 (k:=0) B_j rfl rfl rfl (by rw [show i=r.D by omega]))))

end Go.Proofs.Ytaipghchkamajaa

