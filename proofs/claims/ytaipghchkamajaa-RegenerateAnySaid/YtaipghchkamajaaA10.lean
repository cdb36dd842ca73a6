/-
  Walks of functions of the program and the reference.
-/
import Derived.Test.YtaipghchkamajaaA7
import Derived.Test.YtaipghchkamajaaA9
open Go Go.Cw
namespace Go.Proofs.Ytaipghchkamajaa
open Try
set_option maxRecDepth 100000
set_option linter.unusedVariables false
set_option linter.unusedSimpArgs false
theorem elements_ok (f:Fld) (l:List Int) (n:Int)  : Ctr Try.prog 60 [aGF f,aSl 1 false aInt l,aInt n] (aInt (lenErr f l n)):=by
 refine ctr_of Try.call60 func60 rfl rfl ?_
 intro w O
 refine A_q 0 4 rfl rfl (fun hlen0_4=>?_)
 refine A_q 0 5 rfl rfl (fun hlen0_5=>?_)
 refine ent_len 1 rfl (fun hlen1=>?_)
 refine esk rfl ?_
 refine A_C fun _ K2=>?_
 refine esr rfl fun _ K3=>?_
 refine A_A rfl (ok_len rfl runUnderlying29 rfl) ?_
 refine emm rfl ?_
 refine A_A rfl (ok_neq rfl rfl) ?_
 refine enk K3 ?_
 refine A_G rfl (fun h12=>?_) (fun h12=>?_)
 ·refine esk rfl ?_
  refine A_Q ?_
  exact retR1 (.inr rfl) results60 (A_L (A_S rfl (A_Z (by unfold lenErr;rw [if_pos h12]))))
 refine esp K2 ?_
 refine A_C fun _ K5=>?_
 refine esr rfl fun _ K6=>?_
 refine A_A rfl (ok_len rfl runUnderlying29 rfl) ?_
 refine emm rfl ?_
 refine enk K6 ?_
 refine A_K ?_
 refine A_d (fun (i:Int)=>(⟨[(0,aGF f),(13,aSl 1 false aInt l),(14,aInt (↑l.length:Int)),(15,aInt i)],[]⟩:St)) (fun (i:Int)=>(0<=i)/\(i<=l.length)/\(¬outF f (l.take i.toNat))) (fun (i:Int)=>(l.length-i).toNat) 0 ⟨(by omega),(by omega),(by simp [outF])⟩ (A_J ⟨rfl,rfl,rfl,A_V (A_p (show 0=(0:Int) by rfl)),trivial⟩ rfl) ?_
 rintro i ⟨h0,h1,hn⟩
 show Ent _ ⟨_,[]⟩ _
 refine esr rfl fun _ K7=>?_
 refine A_A rfl (A_r rfl rfl) ?_
 refine enk K7 ?_
 refine A_C fun _ K8=>?_
 refine A_G rfl (fun h16=>?_) (fun h16=>?_)
 ·refine esp K8 ?_
  refine A_C fun _ K9=>?_
  refine A_K ?_
  refine esr rfl fun _ K10=>?_
  refine A_A rfl (A_a 0 sl29 rfl rfl (by omega) (by omega)) ?_
  refine A_A rfl (A_P ti3 rfl) ?_
  refine emm rfl ?_
  refine enk K10 ?_
  refine esr rfl fun _ K11=>?_
  refine A_A rfl (A_W (Is_ok f (ix 0 l i)) rfl) ?_
  refine A_A rfl (ok_notD rfl) ?_
  refine enk K11 ?_
  refine A_G rfl (fun h22=>?_) (fun h22=>?_)
  ·refine esk rfl ?_
   refine A_Q ?_
   exact retR1 (.inr rfl) results60 (A_L (A_S rfl (A_Z (by unfold lenErr entErr;rw [if_neg h12,if_pos (outF_at h0 h16 h22)]))))
  refine esp K9 ?_
  refine A_H ?_
  refine A_A rfl (A_n rfl rfl (by omega) (by omega)) ?_
  refine emm rfl ?_
  refine A_O ?_
  refine A_U (s:=(i)) (i+1) ⟨(by omega),‹_›,(outF_succ h0 h16 hn (Classical.not_not.1 h22))⟩ (by omega) (A_J ⟨rfl,rfl,rfl,rfl,trivial⟩ rfl)
 refine A_e ?_
 refine A_0 K5 ?_
 refine esk rfl ?_
 refine A_Q ?_
 exact retR1 (.inr rfl) results60 (A_L (A_S rfl (A_Z (by unfold lenErr entErr;rw [if_neg h12,if_neg (by rw [List.take_of_length_le (by omega)] at hn;exact hn)]))))

theorem RgPowers_ok (f:Fld) (x n:Int) (hF:FOk f) (hn0:0<=n) (hn1:n<=64):CtrF Try.prog 62 [aGF f,aInt x,aInt n] (aVec 3 1 false aInt (powsF f x n)):=by
 refine ctrF_of Try.call62 func62 rfl rfl ?_
 intro w O
 refine A_q 0 4 rfl rfl (fun hlen0_4=>?_)
 refine A_q 0 5 rfl rfl (fun hlen0_5=>?_)
 refine esk rfl ?_
 refine esr rfl fun _ K2=>?_
 refine ent_make aInt 0 rfl vt29 rfl rfl (by omega) (by omega) (by omega) (fun _ _=>rfl) (AllV.mem ⟨rfl,trivial⟩) (fun b10_1=>?_)
 refine emm rfl ?_
 refine enk K2 ?_
 refine A_C fun _ K3=>?_
 refine esr rfl fun _ K4=>?_
 refine A_A rfl (ok_lenEx rfl runUnderlying29 rfl) ?_
 refine emm rfl ?_
 refine enk K4 ?_
 refine A_K ?_
 refine A_d (fun (i:Int)=>(⟨[(0,aGF f),(1,aInt x),(7,aEx (vec (some b10_1) ((n).toNat) ((n).toNat))),(12,aInt (↑((n).toNat):Int)),(13,aInt i)],[oVec (some b10_1) ((n).toNat) 3 1 false aInt (fillR (powF f x) 0 n i)]⟩:St)) (fun (i:Int)=>(0<=i)/\(i<=n)) (fun (i:Int)=>(n-i).toNat) 0 ⟨(by omega),‹_›⟩ (A_J ⟨rfl,rfl,rfl,rfl,A_V (A_p (show 0=(0:Int) by rfl)),trivial⟩ (A_F (A_s (show fillR (powF f x) 0 n (0:Int)=List.replicate ((n).toNat) 0 by exact fillR_zero _ _ _)) (rfl))) ?_
 rintro i ⟨h0,h1⟩
 show Ent _ ⟨_,[_]⟩ _
 have lf:=length_fillR (powF f x) 0 h0 h1
 refine esr rfl fun _ K5=>?_
 refine A_A rfl (A_r rfl rfl) ?_
 refine enk K5 ?_
 refine A_C fun _ K6=>?_
 refine A_G rfl (fun h14=>?_) (fun h14=>?_)
 ·refine esp K6 ?_
  refine A_C fun _ K7=>?_
  refine A_K ?_
  refine esk rfl ?_
  refine A_H ?_
  refine emm rfl ?_
  refine A_A rfl (A_W (Pow_ok f x i ‹_› (by omega) (by omega)) rfl) ?_
  refine emm rfl ?_
  refine A_A rfl (A_T rfl rfl) ?_
  refine A_A rfl (A_T rfl rfl) ?_
  refine A_A rfl (ok_indexV sl29 rfl rfl (by omega) (by omega)) ?_
  refine ent_storeV (k:=0) (z:=powF f x i) ti3 rfl rfl rfl (A_z (A_N _)) (by omega) (by omega) ?_
  refine enk K7 ?_
  refine A_H ?_
  refine A_A rfl (A_n rfl rfl (by omega) (by omega)) ?_
  refine emm rfl ?_
  refine A_O ?_
  refine A_U (s:=(i)) (i+1) ⟨(by omega),(by omega)⟩ (by omega) (A_J ⟨rfl,rfl,rfl,rfl,rfl,trivial⟩ (A_F (A_s (show fillR (powF f x) 0 n (i+1)=List.set (fillR (powF f x) 0 n i) (i).toNat (powF f x i) by exact (fillR_set (powF f x) 0 h0 (show i<n by omega)).symm)) (rfl)))
 refine A_e ?_
 refine A_0 K3 ?_
 refine esk rfl ?_
 refine A_Q ?_
 exact retR1 (.inr rfl) results62 (A_L (A_S rfl (cvF_vecV (k:=0) flat_int rfl rfl (by simp_all) (by rw [fillR_all (powF f x) 0 (show n<=i by omega),show i=n by omega];rfl))))

end Go.Proofs.Ytaipghchkamajaa

