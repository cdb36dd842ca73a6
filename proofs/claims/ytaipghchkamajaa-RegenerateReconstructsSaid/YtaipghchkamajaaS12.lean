/-
  Walks.
-/
import Derived.Test.YtaipghchkamajaaS11
open Go Go.Cw
namespace Go.Proofs.Ytaipghchkamajaa
open Try
set_option maxRecDepth 100000
set_option linter.unusedVariables false
set_option linter.unusedSimpArgs false
theorem rRecArgs_ok (r:Rgn) (ws:List Int) (cs:List (List Int)) (hk1 : -9223372036854775808<=r.K) (hk2:r.K<=9223372036854775807) (hd1 : -9223372036854775808<=r.D) (hd2:r.D<=9223372036854775807):Ctr Try.prog 46 [aRgn r,aSl 1 false aInt ws,aSl 1 false aInts cs] (aInt (rarE r ws cs)):=by
 refine B_E Try.call46 func46 rfl rfl ?_
 intro w O
 refine A_l 0 2 rfl rfl fun hlen0_2=>A_l 0 6 rfl rfl fun hlen0_6=>B_D 1 rfl fun hlen1=>B_D 2 rfl fun hlen2=>esr rfl fun _ K1=>A_w rfl rfl (AllOne.mem ⟨(A_N _),(A_N _),A_j,(A_N _),(A_N _),(A_N _),A_j,trivial⟩) fun b3_1=>emm rfl <|enk K1 <|esr rfl fun _ K2=>A_A rfl (A_S (k:=0) ti53 rfl rfl rfl) <|A_A rfl (A_X (rRgCheck_ok r ‹_› ‹_› ‹_› ‹_›) rfl) <|emm rfl <|enk K2 <|A_C fun _ K3=>esr rfl fun _ K4=>A_A rfl (B_W rfl rfl) <|enk K4 ?_
 refine A_H rfl (fun h14=>?_) (fun h14=>?_)
 ·have e0:=h14
  have RO:=C_y.1 e0
  have hlen:=RO.len
  have hF:=RO.fld
  have hrng:=RO.rng
  unfold rgBad at hrng
  refine A_F <|A_A rfl (A_S (k:=0) ti53 rfl rfl rfl) <|emm rfl <|A_A rfl (A_B runUnderlying53 rfl sizeOf3 (by decide) rfl) <|A_A rfl (A_K (k:=0) isAgg3 rfl rfl rfl) <|A_A rfl (A_X (rNodes_ok r ws r.K (-1)) rfl) <|emm rfl <|enk K3 <|A_C fun _ K5=>esr rfl fun _ K6=>A_A rfl (B_B rfl rfl) <|enk K6 ?_
  refine A_H rfl (fun h21=>?_) (fun h21=>?_)
  ·have hre:rarE r ws cs=nodErr r.Points.length r.K (-1) ws\/rarE r ws cs=rgErr r:=by exact .inl (rarE_n e0 h21)
   have hre2:=hre
   refine esk rfl <|A_R ?_
   exact retR1 (.inr rfl) results46 (A_L (A_U rfl (A_b (by exact (rarE_n e0 h21).symm))))
  refine esp K5 <|A_C fun _ K8=>esr rfl fun _ K9=>A_A rfl (A_5 rfl runUnderlying65 rfl) <|A_A rfl (A_B runUnderlying53 rfl sizeOf3 (by decide) rfl) <|A_A rfl (A_K (k:=0) isAgg3 rfl rfl rfl) <|A_A rfl (B_B rfl rfl) <|enk K9 ?_
  refine A_H rfl (fun h27=>?_) (fun h27=>?_)
  ·have hr3:rarE r ws cs=3:=by exact rarE_3 e0 (n_N h21) h27
   refine esk rfl <|A_R ?_
   exact retR1 (.inr rfl) results46 (A_L (A_U rfl (A_b (by exact hr3.symm))))
  have hrf:rarE r ws cs=fstE r.F (rgA r) cs:=by exact rarE_f e0 (n_N h21) (n_N h27)
  have hcl:(cs.length:Int)=r.K:=n_N h27
  refine esp K8 <|esr rfl fun _ K11=>A_A rfl (A_S (k:=0) ti53 rfl rfl rfl) <|A_A rfl (A_X (G_m r ‹_›) rfl) <|emm rfl <|A_A rfl (A_V rfl rfl) <|A_A rfl (A_V rfl rfl) <|emm rfl <|enk K11 <|A_C fun _ K12=>esk rfl <|A_I <|A_Y (fun (i:Int)=>(⟨[(2,aSl 1 false aInts cs),(3,aEx (.pointer (some ⟨b3_1,0,none⟩))),(9,aInt (rgA r)),(10,aInt i)],[oBox b3_1 53 [aInt r.F.P,aInt r.F.M,aSl 1 false aInt r.F.mod,aInt r.Kind,aInt r.K,aInt r.D,aSl 1 false aInt r.Points]]⟩:St)) (fun (i:Int)=>(0<=i)/\(i<=r.K)/\(∀c∈cs.take i.toNat,lenErr r.F c (rgA r)=0)) (fun (i:Int)=>(r.K-i).toNat) 0 ⟨(by omega),(by omega),(by simp)⟩ (A_J ⟨rfl,rfl,rfl,A_Q (A_k (show 0=(0:Int) by rfl)),trivial⟩ rfl) ?_
  rintro i ⟨h0,h1,hn⟩
  show Ent _ ⟨_,[_]⟩ _
  refine A_C fun _ K14=>esr rfl fun _ K15=>A_A rfl (A_B runUnderlying53 rfl sizeOf3 (by decide) rfl) <|A_A rfl (A_K (k:=0) isAgg3 rfl rfl rfl) <|A_A rfl (A_m rfl rfl) <|enk K15 ?_
  refine A_H rfl (fun h36=>?_) (fun h36=>?_)
  ·refine esp K14 <|A_C fun _ K16=>A_I <|A_C fun _ K17=>A_u 9 mixed (by kernel_rfl) (by kernel_rfl) (by kernel_rfl) <|dw_o rfl (A_B runUnderlying53 rfl sizeOf51 (by decide) rfl) <|dw_o rfl (A_S (k:=0) ti51 rfl rfl rfl) <|dw_o rfl (A_D rfl) <|dw_o rfl (A_D rfl) <|dw_o rfl (A_W [] sl65 rfl rfl) <|dw_o rfl (A_P ti29 rfl) <|dw_o rfl (A_D rfl) <|dw_o rfl (A_X (rList_ok r.F (ix [] cs i) (rgA r)) rfl) <|dw_o rfl (B_H rfl) <|A_9 <|enk K17 <|esr rfl fun _ K18=>A_A rfl (B_B rfl rfl) <|enk K18 ?_
   refine A_H rfl (fun h48=>?_) (fun h48=>?_)
   ·have hre:rarE r ws cs=lenErr r.F (ix [] cs i) (rgA r):=hrf.trans (fstE_at h0 (by omega) hn h48)
    refine esk rfl <|A_R ?_
    exact retR1 (.inr rfl) results46 (A_L (A_U rfl (A_b (by exact hre.symm))))
   refine esp K16 <|A_F <|emm rfl <|A_A rfl (A_g rfl rfl) <|emm rfl <|A_O ?_
   refine A_T (s:=(i)) (i+1) ⟨(by omega),‹_›,(fstE_succ h0 (by omega) hn (n_N h48))⟩ (by omega) (A_J ⟨rfl,rfl,rfl,rfl,trivial⟩ rfl)
  refine A_Z <|A_1 K12 <|esk rfl <|A_R ?_
  exact retR1 (.inr rfl) results46 (A_L (A_U rfl (A_b (by rw [hrf];exact (E_t.2 (by rw [t_L (by omega)] at hn;exact hn)).symm))))
 have hra:=rarE_1 (ws:=ws) (cs:=cs) h14
 refine esp K3 <|A_C fun _ K21=>esr rfl fun _ K22=>A_A rfl (B_B rfl rfl) <|enk K22 ?_
 refine A_H rfl (fun h21=>?_) (fun h21=>?_)
 ·have hre:rarE r ws cs=nodErr r.Points.length r.K (-1) ws\/rarE r ws cs=rgErr r:=by exact .inr hra
  have hre2:=hre
  refine esk rfl <|A_R ?_
  exact retR1 (.inr rfl) results46 (A_L (A_U rfl (A_b (by exact hra.symm))))
 refine esp K21 <|A_C fun _ K24=>esr rfl fun _ K25=>A_A rfl (A_5 rfl runUnderlying65 rfl) <|A_A rfl (A_B runUnderlying53 rfl sizeOf3 (by decide) rfl) <|A_A rfl (A_K (k:=0) isAgg3 rfl rfl rfl) <|A_A rfl (B_B rfl rfl) <|enk K25 ?_
 refine A_H rfl (fun h27=>?_) (fun h27=>?_)
 ·have hr3:rarE r ws cs=3:=by exact absurd (n_N h21) h14
  refine esk rfl <|A_R ?_
  exact retR1 (.inr rfl) results46 (A_L (A_U rfl (A_b (by exact hr3.symm))))
 have hrf:rarE r ws cs=fstE r.F (rgA r) cs:=by exact absurd (n_N h21) h14
 have hcl:(cs.length:Int)=r.K:=n_N h27
 refine esp K24 <|esr rfl fun _ K27=>A_A rfl (A_S (k:=0) ti53 rfl rfl rfl) <|A_A rfl (A_X (G_m r (by omega)) rfl) <|emm rfl <|A_A rfl (A_V rfl rfl) <|A_A rfl (A_V rfl rfl) <|emm rfl <|enk K27 <|A_C fun _ K28=>esk rfl <|A_I <|A_Y (fun (i:Int)=>(⟨[(2,aSl 1 false aInts cs),(3,aEx (.pointer (some ⟨b3_1,0,none⟩))),(9,aInt (rgA r)),(10,aInt i)],[oBox b3_1 53 [aInt r.F.P,aInt r.F.M,aSl 1 false aInt r.F.mod,aInt r.Kind,aInt r.K,aInt r.D,aSl 1 false aInt r.Points]]⟩:St)) (fun (i:Int)=>(0<=i)/\(i<=r.K)/\(∀c∈cs.take i.toNat,lenErr r.F c (rgA r)=0)) (fun (i:Int)=>(r.K-i).toNat) 0 ⟨(by omega),(by omega),(by simp)⟩ (A_J ⟨rfl,rfl,rfl,A_Q (A_k (show 0=(0:Int) by rfl)),trivial⟩ rfl) ?_
 rintro i ⟨h0,h1,hn⟩
 show Ent _ ⟨_,[_]⟩ _
 refine A_C fun _ K30=>esr rfl fun _ K31=>A_A rfl (A_B runUnderlying53 rfl sizeOf3 (by decide) rfl) <|A_A rfl (A_K (k:=0) isAgg3 rfl rfl rfl) <|A_A rfl (A_m rfl rfl) <|enk K31 ?_
 refine A_H rfl (fun h36=>?_) (fun h36=>?_)
 ·refine esp K30 <|A_C fun _ K32=>A_I <|A_C fun _ K33=>A_u 9 mixed (by kernel_rfl) (by kernel_rfl) (by kernel_rfl) <|dw_o rfl (A_B runUnderlying53 rfl sizeOf51 (by decide) rfl) <|dw_o rfl (A_S (k:=0) ti51 rfl rfl rfl) <|dw_o rfl (A_D rfl) <|dw_o rfl (A_D rfl) <|dw_o rfl (A_W [] sl65 rfl rfl) <|dw_o rfl (A_P ti29 rfl) <|dw_o rfl (A_D rfl) <|dw_o rfl (A_X (rList_ok r.F (ix [] cs i) (rgA r)) rfl) <|dw_o rfl (B_H rfl) <|A_9 <|enk K33 <|esr rfl fun _ K34=>A_A rfl (B_B rfl rfl) <|enk K34 ?_
  refine A_H rfl (fun h48=>?_) (fun h48=>?_)
  ·have hre:rarE r ws cs=lenErr r.F (ix [] cs i) (rgA r):=hrf.trans (fstE_at h0 (by omega) hn h48)
   refine esk rfl <|A_R ?_
   exact retR1 (.inr rfl) results46 (A_L (A_U rfl (A_b (by exact hre.symm))))
  refine esp K32 <|A_F <|emm rfl <|A_A rfl (A_g rfl rfl) <|emm rfl <|A_O ?_
  refine A_T (s:=(i)) (i+1) ⟨(by omega),‹_›,(fstE_succ h0 (by omega) hn (n_N h48))⟩ (by omega) (A_J ⟨rfl,rfl,rfl,rfl,trivial⟩ rfl)
 refine A_Z <|A_1 K28 <|esk rfl <|A_R ?_
 exact retR1 (.inr rfl) results46 (A_L (A_U rfl (A_b (by rw [hrf];exact (E_t.2 (by rw [t_L (by omega)] at hn;exact hn)).symm))))
end Go.Proofs.Ytaipghchkamajaa

