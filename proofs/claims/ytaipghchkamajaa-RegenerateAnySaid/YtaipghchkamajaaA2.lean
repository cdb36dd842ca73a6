/-
  Walks of functions of the program and the reference.
-/
import Derived.Test.YtaipghchkamajaaTab
import Derived.Test.YtaipghchkamajaaPlainJ1
set_option linter.unnecessarySimpa false
open Go Go.Cw
namespace Go.Proofs.Ytaipghchkamajaa
open Try
set_option maxRecDepth 100000
set_option linter.unusedVariables false
set_option linter.unusedSimpArgs false
theorem Index_ok (l:List Int) (x:Int)  : Ctr Try.prog 119 [aSl 1 false aInt l,aInt x] (aInt (ixOf l x)):=by
 refine ctr_of Try.call119 func119 rfl rfl ?_
 intro w O
 refine ent_len 0 rfl (fun hlen0=>?_)
 refine esk rfl ?_
 refine A_C fun _ K2=>?_
 refine esr rfl fun _ K3=>?_
 refine A_A rfl (ok_len rfl runUnderlying29 rfl) ?_
 refine emm rfl ?_
 refine enk K3 ?_
 refine A_K ?_
 refine A_d (fun (i:Int)=>(⟨[(0,aSl 1 false aInt l),(1,aInt x),(7,aInt (↑l.length:Int)),(8,aInt i)],[]⟩:St)) (fun (i:Int)=>(0<=i)/\(i<=l.length)/\(x∉l.take i.toNat)) (fun (i:Int)=>(l.length-i).toNat) 0 ⟨(by omega),(by omega),(by simp)⟩ (A_J ⟨rfl,rfl,rfl,A_V (A_p (show 0=(0:Int) by rfl)),trivial⟩ rfl) ?_
 rintro i ⟨h0,h1,hn⟩
 show Ent _ ⟨_,[]⟩ _
 refine esr rfl fun _ K4=>?_
 refine A_A rfl (A_r rfl rfl) ?_
 refine enk K4 ?_
 refine A_C fun _ K5=>?_
 refine A_G rfl (fun h9=>?_) (fun h9=>?_)
 ·refine esp K5 ?_
  refine A_C fun _ K6=>?_
  refine A_K ?_
  refine esk rfl ?_
  refine esr rfl fun _ K8=>?_
  refine A_A rfl (A_a 0 sl29 rfl rfl (by omega) (by omega)) ?_
  refine A_A rfl (A_P ti3 rfl) ?_
  refine A_A rfl (ok_eql rfl rfl) ?_
  refine enk K8 ?_
  refine A_G rfl (fun h16=>?_) (fun h16=>?_)
  ·refine esk rfl ?_
   refine A_Q ?_
   exact retR1 (.inr rfl) results119 (A_L (A_S rfl (A_Z (by exact (ixOf_at l x h0 h9 h16.symm hn).symm))))
  refine esp K6 ?_
  refine A_H ?_
  refine A_A rfl (A_n rfl rfl (by omega) (by omega)) ?_
  refine emm rfl ?_
  refine A_O ?_
  refine A_U (s:=(i)) (i+1) ⟨(by omega),‹_›,(by rw [take_succ_ix 0 l h0 h9,List.mem_append,not_or];exact ⟨hn,by simpa [ix] using h16⟩)⟩ (by omega) (A_J ⟨rfl,rfl,rfl,rfl,trivial⟩ rfl)
 refine A_e ?_
 refine A_0 K2 ?_
 refine esk rfl ?_
 refine A_Q ?_
 exact retR1 (.inr rfl) results119 (A_L (A_S rfl (A_Z (by exact (ixOf_none l x (by rw [List.take_of_length_le (by omega)] at hn;exact hn)).symm))))

theorem Contains_ok (l:List Int) (x:Int)  : Ctr Try.prog 91 [aSl 1 false aInt l,aInt x] (aBool (decide (x∈l))):=by
 refine ctr_of Try.call91 func91 rfl rfl ?_
 intro w O
 refine ent_len 0 rfl (fun hlen0=>?_)
 refine esk rfl ?_
 refine esr rfl fun _ K2=>?_
 refine A_A rfl (A_W (Index_ok l x) rfl) ?_
 refine A_A rfl (ok_geq rfl rfl) ?_
 refine emm rfl ?_
 refine enk K2 ?_
 refine A_Q ?_
 exact retR1 (.inr rfl) results91 (A_L (A_S rfl (cv_bool (by exact decide_eq_decide.2 (ixOf_pos l x)))))

theorem twice_ok (l:List Int)  : Ctr Try.prog 58 [aSl 1 false aInt l] (aBool (decide (¬l.Nodup))):=by
 refine ctr_of Try.call58 func58 rfl rfl ?_
 intro w O
 refine ent_len 0 rfl (fun hlen0=>?_)
 refine esk rfl ?_
 refine A_C fun _ K2=>?_
 refine esr rfl fun _ K3=>?_
 refine A_A rfl (ok_len rfl runUnderlying29 rfl) ?_
 refine emm rfl ?_
 refine enk K3 ?_
 refine A_K ?_
 refine A_d (fun (i:Int)=>(⟨[(0,aSl 1 false aInt l),(5,aSl 1 false aInt l),(6,aInt (↑l.length:Int)),(7,aInt i)],[]⟩:St)) (fun (i:Int)=>(0<=i)/\(i<=l.length)/\((l.take i.toNat).Nodup)) (fun (i:Int)=>(l.length-i).toNat) 0 ⟨(by omega),(by omega),(by simp)⟩ (A_J ⟨rfl,rfl,rfl,A_V (A_p (show 0=(0:Int) by rfl)),trivial⟩ rfl) ?_
 rintro i ⟨h0,h1,hn⟩
 show Ent _ ⟨_,[]⟩ _
 refine esr rfl fun _ K4=>?_
 refine A_A rfl (A_r rfl rfl) ?_
 refine enk K4 ?_
 refine A_C fun _ K5=>?_
 refine A_G rfl (fun h8=>?_) (fun h8=>?_)
 ·refine esp K5 ?_
  refine A_C fun _ K6=>?_
  refine A_K ?_
  refine esr rfl fun _ K7=>?_
  refine A_A rfl (A_a 0 sl29 rfl rfl (by omega) (by omega)) ?_
  refine A_A rfl (A_P ti3 rfl) ?_
  refine emm rfl ?_
  refine enk K7 ?_
  refine esr rfl fun _ K8=>?_
  refine A_A rfl (ok_sliceTo sl29 rfl rfl (by omega) (by omega)) ?_
  refine emm rfl ?_
  refine A_A rfl (A_W (Contains_ok (List.take (i).toNat l) (ix 0 l i)) rfl) ?_
  refine enk K8 ?_
  refine A_G rfl (fun h16=>?_) (fun h16=>?_)
  ·refine esk rfl ?_
   refine A_Q ?_
   exact retR1 (.inr rfl) results58 (A_L (A_S rfl (cv_bool (by exact (decide_eq_true (nodup_of_take (fun h=>((nodup_take_succ l h0 h8).1 h).2 h16))).symm))))
  refine esp K6 ?_
  refine A_H ?_
  refine A_A rfl (A_n rfl rfl (by omega) (by omega)) ?_
  refine emm rfl ?_
  refine A_O ?_
  refine A_U (s:=(i)) (i+1) ⟨(by omega),‹_›,((nodup_take_succ l h0 h8).2 ⟨hn,h16⟩)⟩ (by omega) (A_J ⟨rfl,rfl,rfl,rfl,trivial⟩ rfl)
 refine A_e ?_
 refine A_0 K2 ?_
 refine esk rfl ?_
 refine A_Q ?_
 exact retR1 (.inr rfl) results58 (A_L (A_S rfl (cv_bool (by exact (decide_eq_false (fun h=>h (by rw [List.take_of_length_le (by omega)] at hn;exact hn))).symm))))

theorem nodes_ok (l:List Int) (m n but:Int)  : Ctr Try.prog 48 [aSl 1 false aInt l,aInt m,aInt n,aInt but] (aInt (if (l.length:Int)≠m then 3 else lstErr n but l)):=by
 refine ctr_of Try.call48 func48 rfl rfl ?_
 intro w O
 refine ent_len 0 rfl (fun hlen0=>?_)
 refine esk rfl ?_
 refine A_C fun _ K2=>?_
 refine esr rfl fun _ K3=>?_
 refine A_A rfl (ok_len rfl runUnderlying29 rfl) ?_
 refine emm rfl ?_
 refine A_A rfl (ok_neq rfl rfl) ?_
 refine enk K3 ?_
 refine A_G rfl (fun h14=>?_) (fun h14=>?_)
 ·refine esk rfl ?_
  refine A_Q ?_
  exact retR1 (.inr rfl) results48 (A_L (A_S rfl (A_Z (by rw [if_pos h14]))))
 refine esp K2 ?_
 refine A_C fun _ K5=>?_
 refine esr rfl fun _ K6=>?_
 refine A_A rfl (ok_len rfl runUnderlying29 rfl) ?_
 refine emm rfl ?_
 refine enk K6 ?_
 refine A_K ?_
 refine A_d (fun (i:Int)=>(⟨[(0,aSl 1 false aInt l),(2,aInt n),(3,aInt but),(15,aSl 1 false aInt l),(16,aInt (↑l.length:Int)),(17,aInt i)],[]⟩:St)) (fun (i:Int)=>(0<=i)/\(i<=l.length)/\(¬badIn n but (l.take i.toNat))) (fun (i:Int)=>(l.length-i).toNat) 0 ⟨(by omega),(by omega),(by simp [badIn])⟩ (A_J ⟨rfl,rfl,rfl,rfl,rfl,A_V (A_p (show 0=(0:Int) by rfl)),trivial⟩ rfl) ?_
 rintro i ⟨h0,h1,hn⟩
 show Ent _ ⟨_,[]⟩ _
 refine esr rfl fun _ K7=>?_
 refine A_A rfl (A_r rfl rfl) ?_
 refine enk K7 ?_
 refine A_C fun _ K8=>?_
 refine A_G rfl (fun h18=>?_) (fun h18=>?_)
 ·refine esp K8 ?_
  refine A_C fun _ K9=>?_
  refine A_K ?_
  refine esr rfl fun _ K10=>?_
  refine A_A rfl (A_a 0 sl29 rfl rfl (by omega) (by omega)) ?_
  refine A_A rfl (A_P ti3 rfl) ?_
  refine emm rfl ?_
  refine enk K10 ?_
  refine A_C fun _ K11=>?_
  refine ent_cut (⟨[(0,aSl 1 false aInt l),(2,aInt n),(3,aInt but),(15,aSl 1 false aInt l),(16,aInt (↑l.length:Int)),(17,aInt i),(32,aBool (decide ((((ix 0 l i)<0)\/(n<=(ix 0 l i)))\/((ix 0 l i)=but))))],[]⟩) ?_ ?_
  ·refine A_H ?_
   refine emm rfl ?_
   refine A_A rfl (A_r rfl rfl) ?_
   refine emm rfl ?_
   refine A_2 rfl rfl rfl rfl (fun hg23=>?_) (fun hg23=>?_)
   ·refine emm rfl ?_
    refine A_M rfl rfl rfl rfl (decide_eq_false hg23) ?_
    refine emm rfl ?_
    refine A_M rfl rfl rfl rfl (decide_eq_false hg23) ?_
    refine A_A rfl (ok_geq rfl rfl) ?_
    refine A_A rfl (A_1 rfl (decide_eq_false hg23) rfl) ?_
    refine emm rfl ?_
    refine A_2 rfl rfl rfl rfl (fun hg28=>?_) (fun hg28=>?_)
    ·refine emm rfl ?_
     refine A_M rfl rfl rfl rfl (decide_eq_false hg28) ?_
     refine emm rfl ?_
     refine A_M rfl rfl rfl rfl (decide_eq_false hg28) ?_
     refine A_A rfl (ok_eql rfl rfl) ?_
     refine A_A rfl (A_1 rfl (decide_eq_false hg28) rfl) ?_
     refine A_O ?_
     exact A_J ⟨rfl,rfl,rfl,rfl,rfl,rfl,A_X (dq_Q ((or_iff_right (fun h=>h.elim hg23 hg28)).trans Iff.rfl)),trivial⟩ rfl
    refine A_E rfl rfl rfl rfl (decide_eq_true hg28) ?_
    refine A_E rfl rfl rfl rfl (decide_eq_true hg28) ?_
    refine A_A rfl (A_m rfl (decide_eq_true hg28) rfl) ?_
    refine A_O ?_
    exact A_J ⟨rfl,rfl,rfl,rfl,rfl,rfl,A_X (dq_T rfl (Or.inl (Or.inr hg28))),trivial⟩ rfl
   refine A_E rfl rfl rfl rfl (decide_eq_true hg23) ?_
   refine A_E rfl rfl rfl rfl (decide_eq_true hg23) ?_
   refine A_A rfl (A_m rfl (decide_eq_true hg23) rfl) ?_
   refine emm rfl ?_
   refine A_E rfl rfl rfl rfl rfl ?_
   refine A_E rfl rfl rfl rfl rfl ?_
   refine A_E rfl rfl rfl rfl rfl ?_
   refine A_A rfl (A_m rfl rfl rfl) ?_
   refine A_O ?_
   exact A_J ⟨rfl,rfl,rfl,rfl,rfl,rfl,A_X (dq_T rfl (Or.inl (Or.inl hg23))),trivial⟩ rfl
  refine A_0 K11 ?_
  refine A_G rfl (fun h32=>?_) (fun h32=>?_)
  ·refine esk rfl ?_
   refine A_Q ?_
   exact retR1 (.inr rfl) results48 (A_L (A_S rfl (A_Z (by rw [if_neg h14,lstErr,if_pos (badIn_at h0 h18 h32)]))))
  refine esp K9 ?_
  refine A_H ?_
  refine A_A rfl (A_n rfl rfl (by omega) (by omega)) ?_
  refine emm rfl ?_
  refine A_O ?_
  refine A_U (s:=(i)) (i+1) ⟨(by omega),‹_›,(badIn_succ h0 h18 hn h32)⟩ (by omega) (A_J ⟨rfl,rfl,rfl,rfl,rfl,rfl,trivial⟩ rfl)
 refine A_e ?_
 refine A_0 K5 ?_
 refine A_C fun _ K13=>?_
 refine esr rfl fun _ K14=>?_
 refine A_A rfl (A_W (twice_ok l) rfl) ?_
 refine enk K14 ?_
 refine A_G rfl (fun h35=>?_) (fun h35=>?_)
 ·refine esk rfl ?_
  refine A_Q ?_
  exact retR1 (.inr rfl) results48 (A_L (A_S rfl (A_Z (by rw [List.take_of_length_le (by omega)] at hn;rw [if_neg h14,lstErr,if_neg hn,if_neg h35]))))
 refine esp K13 ?_
 refine esk rfl ?_
 refine A_Q ?_
 exact retR1 (.inr rfl) results48 (A_L (A_S rfl (A_Z (by rw [List.take_of_length_le (by omega)] at hn;rw [if_neg h14,lstErr,if_neg hn,if_pos (Classical.not_not.1 h35)]))))

end Go.Proofs.Ytaipghchkamajaa

