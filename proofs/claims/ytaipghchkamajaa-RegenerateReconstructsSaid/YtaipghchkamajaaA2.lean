/-
  Walks.
-/
import Derived.Test.YtaipghchkamajaaTab
import Derived.Test.YtaipghchkamajaaPlainJ1
set_option linter.unnecessarySimpa false
open Go Go.Cw
namespace Go.Proofs.Ytaipghchkamajaa
open Try
set_option maxRecDepth 100000
set_option linter.unusedVariables false
set_option linter.unusedSimpArgs false
theorem Index_ok (l:List Int) (x:Int)  : Ctr Try.prog 119 [aSl 1 false aInt l,aInt x] (aInt (ixOf l x)):=by
 refine B_E Try.call119 func119 rfl rfl ?_
 intro w O
 refine B_D 0 rfl fun hlen0=>esk rfl <|A_C fun _ K2=>esr rfl fun _ K3=>A_A rfl (A_5 rfl runUnderlying29 rfl) <|emm rfl <|enk K3 <|A_I <|A_Y (fun (i:Int)=>(⟨[(0,aSl 1 false aInt l),(1,aInt x),(7,aInt (↑l.length:Int)),(8,aInt i)],[]⟩:St)) (fun (i:Int)=>(0<=i)/\(i<=l.length)/\(x∉l.take i.toNat)) (fun (i:Int)=>(l.length-i).toNat) 0 ⟨(by omega),(by omega),(by simp)⟩ (A_J ⟨rfl,rfl,rfl,A_Q (A_k (show 0=(0:Int) by rfl)),trivial⟩ rfl) ?_
 rintro i ⟨h0,h1,hn⟩
 show Ent _ ⟨_,[]⟩ _
 refine esr rfl fun _ K4=>A_A rfl (A_m rfl rfl) <|enk K4 <|A_C fun _ K5=>?_
 refine A_H rfl (fun h9=>?_) (fun h9=>?_)
 ·refine esp K5 <|A_C fun _ K6=>A_I <|esk rfl <|esr rfl fun _ K8=>A_A rfl (A_W 0 sl29 rfl rfl) <|A_A rfl (A_P ti3 rfl) <|A_A rfl (B_W rfl rfl) <|enk K8 ?_
  refine A_H rfl (fun h16=>?_) (fun h16=>?_)
  ·refine esk rfl <|A_R ?_
   exact retR1 (.inr rfl) results119 (A_L (A_U rfl (A_b (by exact (ixOf_at l x h0 h9 h16.symm hn).symm))))
  refine esp K6 <|A_F <|A_A rfl (A_g rfl rfl) <|emm rfl <|A_O ?_
  refine A_T (s:=(i)) (i+1) ⟨(by omega),‹_›,(by rw [B_A 0 l h0 h9,List.mem_append,not_or];exact ⟨hn,by simpa [ix] using h16⟩)⟩ (by omega) (A_J ⟨rfl,rfl,rfl,rfl,trivial⟩ rfl)
 refine A_Z <|A_1 K2 <|esk rfl <|A_R ?_
 exact retR1 (.inr rfl) results119 (A_L (A_U rfl (A_b (by exact (ixOf_none l x (by rw [t_L (by omega)] at hn;exact hn)).symm))))

theorem Contains_ok (l:List Int) (x:Int)  : Ctr Try.prog 91 [aSl 1 false aInt l,aInt x] (aBool (decide (x∈l))):=by
 refine B_E Try.call91 func91 rfl rfl ?_
 intro w O
 refine B_D 0 rfl fun hlen0=>esk rfl <|esr rfl fun _ K2=>A_A rfl (A_X (Index_ok l x) rfl) <|A_A rfl (E_E rfl rfl) <|emm rfl <|enk K2 <|A_R ?_
 exact retR1 (.inr rfl) results91 (A_L (A_U rfl (B_r (by exact decide_eq_decide.2 (ixOf_pos l x)))))

theorem twice_ok (l:List Int)  : Ctr Try.prog 58 [aSl 1 false aInt l] (aBool (decide (¬l.Nodup))):=by
 refine B_E Try.call58 func58 rfl rfl ?_
 intro w O
 refine B_D 0 rfl fun hlen0=>esk rfl <|A_C fun _ K2=>esr rfl fun _ K3=>A_A rfl (A_5 rfl runUnderlying29 rfl) <|emm rfl <|enk K3 <|A_I <|A_Y (fun (i:Int)=>(⟨[(0,aSl 1 false aInt l),(5,aSl 1 false aInt l),(6,aInt (↑l.length:Int)),(7,aInt i)],[]⟩:St)) (fun (i:Int)=>(0<=i)/\(i<=l.length)/\((l.take i.toNat).Nodup)) (fun (i:Int)=>(l.length-i).toNat) 0 ⟨(by omega),(by omega),(by simp)⟩ (A_J ⟨rfl,rfl,rfl,A_Q (A_k (show 0=(0:Int) by rfl)),trivial⟩ rfl) ?_
 rintro i ⟨h0,h1,hn⟩
 show Ent _ ⟨_,[]⟩ _
 refine esr rfl fun _ K4=>A_A rfl (A_m rfl rfl) <|enk K4 <|A_C fun _ K5=>?_
 refine A_H rfl (fun h8=>?_) (fun h8=>?_)
 ·refine esp K5 <|A_C fun _ K6=>A_I <|esr rfl fun _ K7=>A_A rfl (A_W 0 sl29 rfl rfl) <|A_A rfl (A_P ti3 rfl) <|emm rfl <|enk K7 <|esr rfl fun _ K8=>A_A rfl (C_z sl29 rfl rfl) <|emm rfl <|A_A rfl (A_X (Contains_ok (List.take (i).toNat l) (ix 0 l i)) rfl) <|enk K8 ?_
  refine A_H rfl (fun h16=>?_) (fun h16=>?_)
  ·refine esk rfl <|A_R ?_
   exact retR1 (.inr rfl) results58 (A_L (A_U rfl (B_r (by exact (d_T (D_W (fun h=>((B_n l h0 h8).1 h).2 h16))).symm))))
  refine esp K6 <|A_F <|A_A rfl (A_g rfl rfl) <|emm rfl <|A_O ?_
  refine A_T (s:=(i)) (i+1) ⟨(by omega),‹_›,((B_n l h0 h8).2 ⟨hn,h16⟩)⟩ (by omega) (A_J ⟨rfl,rfl,rfl,rfl,trivial⟩ rfl)
 refine A_Z <|A_1 K2 <|esk rfl <|A_R ?_
 exact retR1 (.inr rfl) results58 (A_L (A_U rfl (B_r (by exact (d_F (fun h=>h (by rw [t_L (by omega)] at hn;exact hn))).symm))))

theorem nodes_ok (l:List Int) (m n but:Int)  : Ctr Try.prog 48 [aSl 1 false aInt l,aInt m,aInt n,aInt but] (aInt (if (l.length:Int)≠m then 3 else lstErr n but l)):=by
 refine B_E Try.call48 func48 rfl rfl ?_
 intro w O
 refine B_D 0 rfl fun hlen0=>esk rfl <|A_C fun _ K2=>esr rfl fun _ K3=>A_A rfl (A_5 rfl runUnderlying29 rfl) <|emm rfl <|A_A rfl (B_B rfl rfl) <|enk K3 ?_
 refine A_H rfl (fun h14=>?_) (fun h14=>?_)
 ·refine esk rfl <|A_R ?_
  exact retR1 (.inr rfl) results48 (A_L (A_U rfl (A_b (by rw [i_P h14]))))
 refine esp K2 <|A_C fun _ K5=>esr rfl fun _ K6=>A_A rfl (A_5 rfl runUnderlying29 rfl) <|emm rfl <|enk K6 <|A_I <|A_Y (fun (i:Int)=>(⟨[(0,aSl 1 false aInt l),(2,aInt n),(3,aInt but),(15,aSl 1 false aInt l),(16,aInt (↑l.length:Int)),(17,aInt i)],[]⟩:St)) (fun (i:Int)=>(0<=i)/\(i<=l.length)/\(¬badIn n but (l.take i.toNat))) (fun (i:Int)=>(l.length-i).toNat) 0 ⟨(by omega),(by omega),(by simp [badIn])⟩ (A_J ⟨rfl,rfl,rfl,rfl,rfl,A_Q (A_k (show 0=(0:Int) by rfl)),trivial⟩ rfl) ?_
 rintro i ⟨h0,h1,hn⟩
 show Ent _ ⟨_,[]⟩ _
 refine esr rfl fun _ K7=>A_A rfl (A_m rfl rfl) <|enk K7 <|A_C fun _ K8=>?_
 refine A_H rfl (fun h18=>?_) (fun h18=>?_)
 ·refine esp K8 <|A_C fun _ K9=>A_I <|esr rfl fun _ K10=>A_A rfl (A_W 0 sl29 rfl rfl) <|A_A rfl (A_P ti3 rfl) <|emm rfl <|enk K10 <|A_C fun _ K11=>?_
  refine B_N (⟨[(0,aSl 1 false aInt l),(2,aInt n),(3,aInt but),(15,aSl 1 false aInt l),(16,aInt (↑l.length:Int)),(17,aInt i),(32,aBool (decide ((((ix 0 l i)<0)\/(n<=(ix 0 l i)))\/((ix 0 l i)=but))))],[]⟩) ?_ ?_
  ·refine A_F <|emm rfl <|A_A rfl (A_m rfl rfl) <|emm rfl ?_
   refine A_6 rfl rfl rfl rfl (fun hg23=>?_) (fun hg23=>?_)
   ·refine emm rfl <|A_M rfl rfl rfl rfl (d_F hg23) <|emm rfl <|A_M rfl rfl rfl rfl (d_F hg23) <|A_A rfl (E_E rfl rfl) <|A_A rfl (A_3 rfl (d_F hg23) rfl) <|emm rfl ?_
    refine A_6 rfl rfl rfl rfl (fun hg28=>?_) (fun hg28=>?_)
    ·refine emm rfl <|A_M rfl rfl rfl rfl (d_F hg28) <|emm rfl <|A_M rfl rfl rfl rfl (d_F hg28) <|A_A rfl (B_W rfl rfl) <|A_A rfl (A_3 rfl (d_F hg28) rfl) <|A_O ?_
     exact A_J ⟨rfl,rfl,rfl,rfl,rfl,rfl,A_a (dq_Q ((or_iff_right (fun h=>h.elim hg23 hg28)).trans Iff.rfl)),trivial⟩ rfl
    refine A_E rfl rfl rfl rfl (d_T hg28) <|A_E rfl rfl rfl rfl (d_T hg28) <|A_A rfl (A_q rfl (d_T hg28) rfl) <|A_O ?_
    exact A_J ⟨rfl,rfl,rfl,rfl,rfl,rfl,A_a (dq_T rfl (Or.inl (Or.inr hg28))),trivial⟩ rfl
   refine A_E rfl rfl rfl rfl (d_T hg23) <|A_E rfl rfl rfl rfl (d_T hg23) <|A_A rfl (A_q rfl (d_T hg23) rfl) <|emm rfl <|A_E rfl rfl rfl rfl rfl <|A_E rfl rfl rfl rfl rfl <|A_E rfl rfl rfl rfl rfl <|A_A rfl (A_q rfl rfl rfl) <|A_O ?_
   exact A_J ⟨rfl,rfl,rfl,rfl,rfl,rfl,A_a (dq_T rfl (Or.inl (Or.inl hg23))),trivial⟩ rfl
  refine A_1 K11 ?_
  refine A_H rfl (fun h32=>?_) (fun h32=>?_)
  ·refine esk rfl <|A_R ?_
   exact retR1 (.inr rfl) results48 (A_L (A_U rfl (A_b (by rw [i_N h14,lstErr,i_P (badIn_at h0 h18 h32)]))))
  refine esp K9 <|A_F <|A_A rfl (A_g rfl rfl) <|emm rfl <|A_O ?_
  refine A_T (s:=(i)) (i+1) ⟨(by omega),‹_›,(badIn_succ h0 h18 hn h32)⟩ (by omega) (A_J ⟨rfl,rfl,rfl,rfl,rfl,rfl,trivial⟩ rfl)
 refine A_Z <|A_1 K5 <|A_C fun _ K13=>esr rfl fun _ K14=>A_A rfl (A_X (twice_ok l) rfl) <|enk K14 ?_
 refine A_H rfl (fun h35=>?_) (fun h35=>?_)
 ·refine esk rfl <|A_R ?_
  exact retR1 (.inr rfl) results48 (A_L (A_U rfl (A_b (by rw [t_L (by omega)] at hn;rw [i_N h14,lstErr,i_N hn,i_N h35]))))
 refine esp K13 <|esk rfl <|A_R ?_
 exact retR1 (.inr rfl) results48 (A_L (A_U rfl (A_b (by rw [t_L (by omega)] at hn;rw [i_N h14,lstErr,i_N hn,i_P (n_N h35)]))))

end Go.Proofs.Ytaipghchkamajaa

