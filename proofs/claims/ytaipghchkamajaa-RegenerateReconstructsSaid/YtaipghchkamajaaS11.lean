/-
  Walks.
-/
import Derived.Test.YtaipghchkamajaaS10
open Go Go.Cw
namespace Go.Proofs.Ytaipghchkamajaa
open Try
set_option maxRecDepth 100000
set_option linter.unusedVariables false
set_option linter.unusedSimpArgs false
theorem rCanon_ok (f:Fld) (X:List (List Int)) (cols:Int) (wd:Nat) (hF:FOk f) (hg:good f wd X) (hc0:0<=cols) (hc1:cols<=wd) (hw:wd<=100000) (hx:X.length<=100000):Ctr Try.prog 83 [aFld f,aSl 1 false aInts X,aInt cols] (aTup [aSl 1 false aInts (canR (elim f X [] cols.toNat)),aSl 1 false aInt ((elim f X [] cols.toNat).piv)]):=by
 have hpl:=C_p f X [] cols.toNat
 have hel:=(B_G f X [] cols.toNat).1
 refine B_E Try.call83 func83 rfl rfl ?_
 intro w O
 refine A_l 0 2 rfl rfl fun hlen0_2=>B_D 1 rfl fun hlen1=>esr rfl fun _ K1=>A_w rfl rfl (AllOne.mem ⟨(A_N _),(A_N _),A_j,trivial⟩) fun b3_1=>emm rfl <|enk K1 <|esr rfl fun _ K2=>A_A rfl (A_S (k:=0) ti51 rfl rfl rfl) <|emm rfl <|A_A rfl (A_X (rEliminate_ok f X cols wd hF hg hc0 hc1 hw hx) rfl) <|emm rfl <|A_A rfl (A_V rfl rfl) <|A_A rfl (A_V rfl rfl) <|emm rfl <|enk K2 <|esr rfl fun _ K3=>A_A rfl (A_5 rfl runUnderlying29 rfl) <|A_A rfl (C_z sl65 rfl rfl) <|emm rfl <|enk K3 <|A_R ?_
 exact retR2 (.inr rfl) results83 (A_L (A_U rfl (C_r F_G rfl))) (A_L (A_U rfl (C_r F_G rfl)))

theorem rTurn_ok (rows:List (List Int)) (cols:Int) (hc0:0<=cols) (hc1:cols<=1000) (hr:∀i:Int,0<=i->i<rows.length->((ix [] rows i).length:Int)=cols) (hm:rows.length<=1000):Ctr Try.prog 82 [aSl 1 false aInts rows,aInt cols] (aSl 1 false aInts (turnL rows cols)):=by
 have htl:=B_X rows cols
 refine B_E Try.call82 func82 rfl rfl ?_
 intro w O
 refine B_D 0 rfl fun hlen0=>esk rfl <|esk rfl <|A_C fun _ K3=>esk rfl <|A_I <|B_U 29 1 false aInts (fun _=>rfl) <|A_Y (fun (ss:Int×Option Nat×Nat)=>match ss with | (c,rr2,cc2)=>(⟨[(0,aSl 1 false aInts rows),(1,aInt cols),(5,aEx (vec rr2 (((turnL rows cols).take c.toNat).length) cc2)),(6,aInt c)],[oVec rr2 cc2 29 1 false aInts ((turnL rows cols).take c.toNat)]⟩:St)) (fun (ss:Int×Option Nat×Nat)=>match ss with | (c,rr2,cc2)=>(0<=c)/\(c<=cols)) (fun (ss:Int×Option Nat×Nat)=>match ss with | (c,rr2,cc2)=>(cols-c).toNat) (0,none,0) ⟨(by omega),‹_›⟩ (A_J ⟨rfl,rfl,A_Q ((show aEx (vec none ([]:List _).length 0)=aEx (vec none (((turnL rows cols).take (0:Int).toNat).length) 0) from B_J (congrArg List.length (show (turnL rows cols).take (0:Int).toNat = [] by rfl).symm))),A_Q (A_k (show 0=(0:Int) by rfl)),trivial⟩ (A_G (A_e (show (turnL rows cols).take (0:Int).toNat = [] by rfl)) (rfl))) ?_
 rintro ⟨c,rr2,cc2⟩ ⟨h0,h1⟩
 show Ent _ ⟨_,[_]⟩ _
 have lt:((turnL rows cols).take c.toNat).length=c.toNat:=by rw [List.length_take];omega
 refine A_C fun _ K5=>esr rfl fun _ K6=>A_A rfl (A_m rfl rfl) <|enk K6 ?_
 refine A_H rfl (fun h11=>?_) (fun h11=>?_)
 ·refine esp K5 <|A_C fun _ K7=>A_I <|esk rfl <|A_C fun _ K9=>esk rfl <|A_I <|B_U 3 1 false aInt (fun _=>rfl) <|A_Y (fun (ss:Int×Option Nat×Nat)=>match ss with | (i,rr4,cc4)=>(⟨[(0,aSl 1 false aInts rows),(1,aInt cols),(5,aEx (vec rr2 (((turnL rows cols).take c.toNat).length) cc2)),(6,aInt c),(7,aEx (vec rr4 (((colC rows c).take i.toNat).length) cc4)),(8,aInt i)],[oVec rr4 cc4 3 1 false aInt ((colC rows c).take i.toNat),oVec rr2 cc2 29 1 false aInts ((turnL rows cols).take c.toNat)]⟩:St)) (fun (ss:Int×Option Nat×Nat)=>match ss with | (i,rr4,cc4)=>(0<=i)/\(i<=rows.length)) (fun (ss:Int×Option Nat×Nat)=>match ss with | (i,rr4,cc4)=>(rows.length-i).toNat) (0,none,0) ⟨(by omega),(by omega)⟩ (A_J ⟨rfl,rfl,rfl,rfl,A_Q ((show aEx (vec none ([]:List _).length 0)=aEx (vec none (((colC rows c).take (0:Int).toNat).length) 0) from B_J (congrArg List.length (show (colC rows c).take (0:Int).toNat = [] by rfl).symm))),A_Q (A_k (show 0=(0:Int) by rfl)),trivial⟩ (A_G (A_e (show (colC rows c).take (0:Int).toNat = [] by rfl)) (rfl))) ?_
  rintro ⟨i,rr4,cc4⟩ ⟨i0,i1⟩
  show Ent _ ⟨_,[_,_]⟩ _
  have lc:((colC rows c).take i.toNat).length=i.toNat:=by rw [List.length_take,D_p];omega
  refine A_C fun _ K11=>esr rfl fun _ K12=>A_A rfl (A_5 rfl runUnderlying65 rfl) <|A_A rfl (A_m rfl rfl) <|enk K12 ?_
  refine A_H rfl (fun h17=>?_) (fun h17=>?_)
  ·have hri:=hr i i0 h17
   refine esp K11 <|A_C fun _ K13=>A_I <|A_F <|emm rfl <|A_A rfl (A_W [] sl65 rfl rfl) <|A_A rfl (A_P ti29 rfl) <|emm rfl <|A_A rfl (A_W 0 sl29 rfl rfl) <|A_A rfl (A_P ti3 rfl) <|B_Q (k:=0) (enc:=aInt) (y:=ix 0 (ix [] rows i) c) rfl rfl vt29 rfl rfl rfl rfl ((A_n (A_N _))) (by omega) (by omega) (by decide) fun b29_5 c29_5=>emm rfl <|enk K13 <|A_F <|emm rfl <|A_A rfl (A_g rfl rfl) <|emm rfl <|A_O ?_
   refine A_T (s:=(i,rr4,cc4)) (i+1,(some b29_5),c29_5) ⟨(by omega),‹_›⟩ (by dsimp only;omega) (A_J ⟨rfl,rfl,rfl,rfl,A_Q (B_J (congrArg List.length (show (colC rows c).take (i+1).toNat=((colC rows c).take i.toNat)++[ix 0 (ix [] rows i) c] by rw [B_A 0 (colC rows c) i0 (by rw [D_p];exact h17),ix_colC rows c i0 h17]).symm)),rfl,trivial⟩ (A_G (A_e (show (colC rows c).take (i+1).toNat=((colC rows c).take i.toNat)++[ix 0 (ix [] rows i) c] by rw [B_A 0 (colC rows c) i0 (by rw [D_p];exact h17),ix_colC rows c i0 h17])) (rfl)))
  refine A_Z <|A_1 K9 <|A_F <|emm rfl <|B_t 0 31 rfl (B_g (k:=0) (B_h rfl) rfl rfl) <|B_Q (k:=0) (enc:=aInts) (y:=(colC rows c).take i.toNat) rfl rfl vt65 rfl rfl rfl rfl ((A_n A_j)) (by omega) (by omega) (by decide) fun b33_6 c33_6=>emm rfl <|enk K7 <|A_F <|emm rfl <|A_A rfl (A_g rfl rfl) <|emm rfl <|A_O ?_
  refine A_T (s:=(c,rr2,cc2)) (c+1,(some b33_6),c33_6) ⟨(by omega),‹_›⟩ (by dsimp only;omega) (A_J ⟨rfl,rfl,A_Q (B_J (congrArg List.length (show (turnL rows cols).take (c+1).toNat=((turnL rows cols).take c.toNat)++[(colC rows c).take i.toNat] by rw [turnL_succ rows h0 h11,show (colC rows c).take i.toNat=colC rows c from t_L (by rw [D_p];omega)]).symm)),rfl,trivial⟩ (A_G (A_e (show (turnL rows cols).take (c+1).toNat=((turnL rows cols).take c.toNat)++[(colC rows c).take i.toNat] by rw [turnL_succ rows h0 h11,show (colC rows c).take i.toNat=colC rows c from t_L (by rw [D_p];omega)])) (rfl)))
 refine A_Z <|A_1 K3 <|esk rfl <|A_R ?_
 exact retR1 (.inr rfl) results82 (A_L (A_U rfl (B_g (k:=0) (D_3 rfl) rfl (by rw [t_L (by omega)]))))
end Go.Proofs.Ytaipghchkamajaa

