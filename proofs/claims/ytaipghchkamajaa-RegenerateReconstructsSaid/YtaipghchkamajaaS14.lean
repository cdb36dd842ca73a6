/-
  Facts for the law RegenerateReconstructs.
-/
import Derived.Test.YtaipghchkamajaaS13
open Go Go.Cw
namespace Go.Proofs.Ytaipghchkamajaa
open Try
set_option maxRecDepth 100000
set_option linter.unusedVariables false
set_option linter.unusedSimpArgs false
theorem D_6 (r:Rgn) (ws:List Int) (cs:List (List Int)) (hk1 : -9223372036854775808<=r.K) (hk2:r.K<=9223372036854775807) (hd1 : -9223372036854775808<=r.D) (hd2:r.D<=9223372036854775807):Ctr Try.prog 14 [aRgn r,aSl 1 false aInt ws,aSl 1 false aInts cs] (aBool true):=by
 refine B_E Try.call14 func14 rfl rfl ?_
 intro w O
 refine A_l 0 2 rfl rfl fun hlen0_2=>A_l 0 6 rfl rfl fun hlen0_6=>B_D 1 rfl fun hlen1=>B_D 2 rfl fun hlen2=>esr rfl fun _ K1=>A_w rfl rfl (AllOne.mem ⟨(A_N _),(A_N _),A_j,(A_N _),(A_N _),(A_N _),A_j,trivial⟩) fun b3_1=>emm rfl <|enk K1 <|A_C fun _ K2=>A_C fun _ K3=>?_
 refine B_N (⟨[(1,aSl 1 false aInt ws),(2,aSl 1 false aInts cs),(3,aEx (.pointer (some ⟨b3_1,0,none⟩))),(25,aBool (decide (((12<(↑r.Points.length:Int))\/(40<(↑ws.length:Int)))\/(40<(↑cs.length:Int)))))],[oBox b3_1 53 [aInt r.F.P,aInt r.F.M,aSl 1 false aInt r.F.mod,aInt r.Kind,aInt r.K,aInt r.D,aSl 1 false aInt r.Points]]⟩) ?_ ?_
 ·refine A_F <|A_A rfl (A_B runUnderlying53 rfl sizeOf29 (by decide) rfl) <|A_A rfl (A_K (k:=0) isAgg29 rfl rfl rfl) <|A_A rfl (A_5 rfl runUnderlying29 rfl) <|A_A rfl (C_M rfl rfl) <|emm rfl ?_
  refine A_6 rfl rfl rfl rfl (fun hg16=>?_) (fun hg16=>?_)
  ·refine emm rfl <|A_M rfl rfl rfl rfl (d_F hg16) <|A_A rfl (A_5 rfl runUnderlying29 rfl) <|A_M rfl rfl rfl rfl (d_F hg16) <|A_A rfl (C_M rfl rfl) <|A_A rfl (A_3 rfl (d_F hg16) rfl) <|emm rfl ?_
   refine A_6 rfl rfl rfl rfl (fun hg21=>?_) (fun hg21=>?_)
   ·refine emm rfl <|A_M rfl rfl rfl rfl (d_F hg21) <|A_A rfl (A_5 rfl runUnderlying65 rfl) <|A_M rfl rfl rfl rfl (d_F hg21) <|A_A rfl (C_M rfl rfl) <|A_A rfl (A_3 rfl (d_F hg21) rfl) <|A_O ?_
    exact A_J ⟨rfl,rfl,rfl,A_a (dq_Q ((or_iff_right (fun h=>h.elim hg16 hg21)).trans Iff.rfl)),trivial⟩ rfl
   refine A_E rfl rfl rfl rfl (d_T hg21) <|A_E rfl rfl rfl rfl (d_T hg21) <|A_A rfl (A_q rfl (d_T hg21) rfl) <|A_O ?_
   exact A_J ⟨rfl,rfl,rfl,A_a (dq_T rfl (Or.inl (Or.inr hg21))),trivial⟩ rfl
  refine A_E rfl rfl rfl rfl (d_T hg16) <|A_E rfl rfl rfl rfl (d_T hg16) <|A_A rfl (A_q rfl (d_T hg16) rfl) <|emm rfl <|A_E rfl rfl rfl rfl rfl <|A_E rfl rfl rfl rfl rfl <|A_E rfl rfl rfl rfl rfl <|A_A rfl (A_q rfl rfl rfl) <|A_O ?_
  exact A_J ⟨rfl,rfl,rfl,A_a (dq_T rfl (Or.inl (Or.inl hg16))),trivial⟩ rfl
 refine A_1 K3 ?_
 refine A_H rfl (fun h25=>?_) (fun h25=>?_)
 ·refine esk rfl <|A_R ?_
  exact retR1 (.inr rfl) results14 (A_L (A_U rfl (B_r rfl)))
 have h12:(r.Points.length:Int)<=12:=Classical.byContradiction fun h=>h25 (.inl (.inl (by omega)))
 refine esp K2 <|esr rfl fun _ K5=>A_A rfl (A_S (k:=0) ti53 rfl rfl rfl) <|emm rfl <|A_A rfl (A_X (Reconstruct_ok r ws cs ‹_› ‹_› ‹_› ‹_›) rfl) <|emm rfl <|A_A rfl (A_V rfl rfl) <|A_A rfl (A_V rfl rfl) <|emm rfl <|enk K5 <|esr rfl fun _ K6=>A_A rfl (A_S (k:=0) ti53 rfl rfl rfl) <|emm rfl <|A_A rfl (A_X (rRecArgs_ok r ws cs ‹_› ‹_› ‹_› ‹_›) rfl) <|emm rfl <|enk K6 <|A_C fun _ K7=>esr rfl fun _ K8=>A_A rfl (B_B rfl rfl) <|enk K8 ?_
 refine A_H rfl (fun h38=>?_) (fun h38=>?_)
 ·have q1:=recE_a h38
  have q2:recV r ws cs = []:=E_g (by rw [q1];exact h38)
  refine A_C fun _ K9=>?_
  refine B_N (⟨[(6,aBool (decide (((recE r ws cs)=(rarE r ws cs))/\((↑(recV r ws cs).length:Int)=0))))],[oBox b3_1 53 [aInt r.F.P,aInt r.F.M,aSl 1 false aInt r.F.mod,aInt r.Kind,aInt r.K,aInt r.D,aSl 1 false aInt r.Points]]⟩) ?_ ?_
  ·refine A_F <|emm rfl <|A_A rfl (B_W rfl rfl) <|emm rfl ?_
   refine B_I rfl rfl rfl rfl (fun hg42=>?_) (fun hg42=>?_)
   ·refine emm rfl <|A_M rfl rfl rfl rfl (d_T hg42) <|A_A rfl (A_5 rfl runUnderlying29 rfl) <|A_M rfl rfl rfl rfl (d_T hg42) <|A_A rfl (B_W rfl rfl) <|A_A rfl (A_q rfl (d_T hg42) rfl) <|emm rfl <|A_O ?_
    exact A_J ⟨A_a (dq_Q ((and_iff_right hg42).trans Iff.rfl)),trivial⟩ rfl
   refine A_E rfl rfl rfl rfl (d_F hg42) <|A_E rfl rfl rfl rfl (d_F hg42) <|A_A rfl (A_3 rfl (d_F hg42) rfl) <|emm rfl <|A_O ?_
   exact A_J ⟨A_a (dq_F rfl (fun h=>hg42 h.1)),trivial⟩ rfl
  refine A_1 K9 <|A_R ?_
  exact retR1 (.inr rfl) results14 (A_L (A_U rfl (B_r (by exact d_T ⟨q1,by rw [q2];rfl⟩))))
 have hz:rarE r ws cs=0:=n_N h38
 have hre:=ref_eq hz h12
 have w1:=hre.1
 have w2:=hre.2
 refine esp K7 <|esr rfl fun _ K10=>A_A rfl (A_S (k:=0) ti53 rfl rfl rfl) <|emm rfl <|A_A rfl (A_X (rReconstruct_ok r ws cs hz h12) rfl) <|emm rfl <|A_A rfl (A_V rfl rfl) <|A_A rfl (A_V rfl rfl) <|emm rfl <|enk K10 <|A_C fun _ K11=>?_
 refine B_N (⟨[(6,aBool (decide (((recE r ws cs)=(refErr r ws cs))/\((recV r ws cs)=(refV r ws cs)))))],[oBox b3_1 53 [aInt r.F.P,aInt r.F.M,aSl 1 false aInt r.F.mod,aInt r.Kind,aInt r.K,aInt r.D,aSl 1 false aInt r.Points]]⟩) ?_ ?_
 ·refine A_F <|emm rfl <|A_A rfl (B_W rfl rfl) <|emm rfl ?_
  refine B_I rfl rfl rfl rfl (fun hg57=>?_) (fun hg57=>?_)
  ·refine emm rfl <|A_M rfl rfl rfl rfl (d_T hg57) <|emm rfl <|A_M rfl rfl rfl rfl (d_T hg57) <|A_A rfl (A_X (SameInts_ok (recV r ws cs) (refV r ws cs)) rfl) <|A_A rfl (A_q rfl (d_T hg57) rfl) <|emm rfl <|A_O ?_
   exact A_J ⟨A_a (dq_Q ((and_iff_right hg57).trans Iff.rfl)),trivial⟩ rfl
  refine A_E rfl rfl rfl rfl (d_F hg57) <|A_E rfl rfl rfl rfl (d_F hg57) <|A_A rfl (A_3 rfl (d_F hg57) rfl) <|emm rfl <|A_O ?_
  exact A_J ⟨A_a (dq_F rfl (fun h=>hg57 h.1)),trivial⟩ rfl
 refine A_1 K11 <|A_R ?_
 exact retR1 (.inr rfl) results14 (A_L (A_U rfl (B_r (by exact d_T ⟨w1.symm,w2.symm⟩))))
end Go.Proofs.Ytaipghchkamajaa
