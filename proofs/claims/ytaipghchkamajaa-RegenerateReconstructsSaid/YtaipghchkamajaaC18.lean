/-
  Walks.
-/
import Derived.Test.YtaipghchkamajaaC16
open Go Go.Cw
namespace Go.Proofs.Ytaipghchkamajaa
open Try
set_option maxRecDepth 100000
set_option linter.unusedVariables false
set_option linter.unusedSimpArgs false

theorem rCopy_ok (X:List (List Int)) (hx:X.length<=1000000) (hr:∀l∈X,l.length<=1000000):CtrN Try.prog 129 [aSl 1 false aInts X] 29 1 false aInts X:=by
 refine ctrN_of Try.call129 func129 rfl rfl ?_
 intro w O
 refine B_D 0 rfl fun hlen0=>esk rfl <|esk rfl <|A_C fun _ K3=>esk rfl <|A_I <|B_U 29 1 false aInts (fun _=>rfl) <|A_Y (fun (ss:Int×Option Nat×Nat)=>match ss with | (i,rr2,cc2)=>(⟨[(0,aSl 1 false aInts X),(3,aEx (vec rr2 ((X.take i.toNat).length) cc2)),(4,aInt i)],[oVec rr2 cc2 29 1 false aInts (X.take i.toNat)]⟩:St)) (fun (ss:Int×Option Nat×Nat)=>match ss with | (i,rr2,cc2)=>(0<=i)/\(i<=X.length)) (fun (ss:Int×Option Nat×Nat)=>match ss with | (i,rr2,cc2)=>(X.length-i).toNat) (0,none,0) ⟨(by omega),(by omega)⟩ (A_J ⟨rfl,A_Q ((show aEx (vec none ([]:List _).length 0)=aEx (vec none ((X.take (0:Int).toNat).length) 0) from B_J (congrArg List.length (show X.take (0:Int).toNat = [] by rfl).symm))),A_Q (A_k (show 0=(0:Int) by rfl)),trivial⟩ (A_G (A_e (show X.take (0:Int).toNat = [] by rfl)) (rfl))) ?_
 rintro ⟨i,rr2,cc2⟩ ⟨h0,h1⟩
 show Ent _ ⟨_,[_]⟩ _
 refine A_C fun _ K5=>esr rfl fun _ K6=>A_A rfl (A_5 rfl runUnderlying65 rfl) <|A_A rfl (A_m rfl rfl) <|enk K6 ?_
 refine A_H rfl (fun h8=>?_) (fun h8=>?_)
 ·have hri:=hr _ (B_i [] X h0 h8)
  refine esp K5 <|A_C fun _ K7=>A_I <|A_F <|emm rfl <|E_6 aInt [] rfl vt29 (by decide) (rfl) rfl fun b12_3=>emm rfl <|A_A rfl (A_W [] sl65 rfl rfl) <|A_A rfl (A_P ti29 rfl) <|B_P (k:=0) rfl vt29 rfl rfl rfl rfl (A_y A_h) (by simp only [l_A,List.length_cons,List.length_nil];omega) (by simp only [l_A,List.length_cons,List.length_nil];omega) fun r17_3 cr17_3=>B_t 0 17 rfl (B_g (k:=0) (B_h rfl) rfl rfl) <|B_Q (k:=0) (enc:=aInts) (y:=[]++(ix [] X i)) rfl rfl vt65 rfl rfl rfl rfl ((A_n A_j)) (by simp;omega) (by simp;omega) (by decide) fun b19_5 c19_5=>emm rfl <|enk K7 <|A_F <|emm rfl <|A_A rfl (A_g rfl rfl) <|emm rfl <|A_O ?_
  refine A_T (s:=(i,rr2,cc2)) (i+1,(some b19_5),c19_5) ⟨(by omega),‹_›⟩ (by dsimp only;omega) (A_J ⟨rfl,A_Q (B_J (congrArg List.length (show X.take (i+1).toNat=(X.take i.toNat)++[[]++(ix [] X i)] by rw [B_A [] X h0 h8];simp).symm)),rfl,trivial⟩ (A_G (A_e (show X.take (i+1).toNat=(X.take i.toNat)++[[]++(ix [] X i)] by rw [B_A [] X h0 h8];simp)) (rfl)))
 refine A_Z <|A_1 K3 <|esk rfl <|A_R ?_
 exact retN (k:=0) (.inr rfl) results129 rfl rfl rfl (by rw [t_L (by omega)])
end Go.Proofs.Ytaipghchkamajaa

