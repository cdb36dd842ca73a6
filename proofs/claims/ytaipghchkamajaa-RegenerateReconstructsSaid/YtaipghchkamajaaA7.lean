/-
  Walks.
-/
import Derived.Test.YtaipghchkamajaaA2
import Derived.Test.YtaipghchkamajaaA6
open Go Go.Cw
namespace Go.Proofs.Ytaipghchkamajaa
open Try
set_option maxRecDepth 100000
set_option linter.unusedVariables false
set_option linter.unusedSimpArgs false

abbrev aRgn (r:Rgn):AV:=aAgg [aInt r.F.P,aInt r.F.M,aInts r.F.mod,aInt r.Kind,aInt r.K,aInt r.D,aInts r.Points]

theorem rEntries_ok (f:Fld) (l:List Int)  : Ctr Try.prog 54 [aFld f,aSl 1 false aInt l] (aInt (entErr f l)):=by
 refine B_E Try.call54 func54 rfl rfl ?_
 intro w O
 refine A_l 0 2 rfl rfl fun hlen0_2=>B_D 1 rfl fun hlen1=>esr rfl fun _ K1=>A_w rfl rfl (AllOne.mem ⟨(A_N _),(A_N _),A_j,trivial⟩) fun b2_1=>emm rfl <|enk K1 <|A_C fun _ K2=>esk rfl <|A_I <|A_Y (fun (i:Int)=>(⟨[(1,aSl 1 false aInt l),(2,aEx (.pointer (some ⟨b2_1,0,none⟩))),(5,aInt i)],[oBox b2_1 51 [aInt f.P,aInt f.M,aSl 1 false aInt f.mod]]⟩:St)) (fun (i:Int)=>(0<=i)/\(i<=l.length)/\(¬outF f (l.take i.toNat))) (fun (i:Int)=>(l.length-i).toNat) 0 ⟨(by omega),(by omega),(by simp [outF])⟩ (A_J ⟨rfl,rfl,A_Q (A_k (show 0=(0:Int) by rfl)),trivial⟩ rfl) ?_
 rintro i ⟨h0,h1,hn⟩
 show Ent _ ⟨_,[_]⟩ _
 refine A_C fun _ K4=>esr rfl fun _ K5=>A_A rfl (A_5 rfl runUnderlying29 rfl) <|A_A rfl (A_m rfl rfl) <|enk K5 ?_
 refine A_H rfl (fun h9=>?_) (fun h9=>?_)
 ·refine esp K4 <|A_C fun _ K6=>A_I <|A_C fun _ K7=>A_u 7 mixed (by kernel_rfl) (by kernel_rfl) (by kernel_rfl) <|dw_o rfl (A_S (k:=0) ti51 rfl rfl rfl) <|dw_o rfl (A_D rfl) <|dw_o rfl (A_D rfl) <|dw_o rfl (A_W 0 sl29 rfl rfl) <|dw_o rfl (A_P ti3 rfl) <|dw_o rfl (A_X (rIs_ok f (ix 0 l i)) rfl) <|dw_o rfl (E_O rfl) <|A_9 <|enk K7 ?_
  refine A_H rfl (fun h18=>?_) (fun h18=>?_)
  ·refine esk rfl <|A_R ?_
   exact retR1 (.inr rfl) results54 (A_L (A_U rfl (A_b (by unfold entErr;rw [i_P (outF_at h0 h9 h18)]))))
  refine esp K6 <|A_F <|emm rfl <|A_A rfl (A_g rfl rfl) <|emm rfl <|A_O ?_
  refine A_T (s:=(i)) (i+1) ⟨(by omega),‹_›,(F_l h0 h9 hn (n_N h18))⟩ (by omega) (A_J ⟨rfl,rfl,rfl,trivial⟩ rfl)
 refine A_Z <|A_1 K2 <|esk rfl <|A_R ?_
 exact retR1 (.inr rfl) results54 (A_L (A_U rfl (A_b (by unfold entErr;rw [i_N (by rw [t_L (by omega)] at hn;exact hn)]))))

theorem rpower_ok (f:Fld) (x n:Int) (hS:Shape f) (hn0 : -9223372036854775808<=n:=by omega) (hn1:n<=9223372036854775807:=by omega):Ctr Try.prog 55 [aFld f,aInt x,aInt n] (aInt (powF f x n)):=by
 refine B_E Try.call55 func55 rfl rfl ?_
 intro w O
 refine A_l 0 2 rfl rfl fun hlen0_2=>esr rfl fun _ K1=>A_w rfl rfl (AllOne.mem ⟨(A_N _),(A_N _),A_j,trivial⟩) fun b3_1=>emm rfl <|enk K1 <|esr rfl fun _ K2=>A_A rfl (A_S (k:=0) ti51 rfl rfl rfl) <|emm rfl <|A_A rfl (A_X (rPow_ok f x n ‹_› ‹_› ‹_›) rfl) <|emm rfl <|A_A rfl (A_V rfl rfl) <|A_A rfl (A_V rfl rfl) <|emm rfl <|enk K2 <|esk rfl <|A_R ?_
 exact retR1 (.inr rfl) results55 (A_L (A_U rfl (A_b rfl)))

theorem rRgCheck_ok (r:Rgn) (hk1 : -9223372036854775808<=r.K) (hk2:r.K<=9223372036854775807) (hd1 : -9223372036854775808<=r.D) (hd2:r.D<=9223372036854775807):Ctr Try.prog 27 [aRgn r] (aInt (rgErr r)):=by
 refine B_E Try.call27 func27 rfl rfl ?_
 intro w O
 refine A_l 0 2 rfl rfl fun hlen0_2=>A_l 0 6 rfl rfl fun hlen0_6=>esr rfl fun _ K1=>A_w rfl rfl (AllOne.mem ⟨(A_N _),(A_N _),A_j,(A_N _),(A_N _),(A_N _),A_j,trivial⟩) fun b1_1=>emm rfl <|enk K1 <|A_C fun _ K2=>esr rfl fun _ K3=>A_A rfl (A_B runUnderlying53 rfl sizeOf51 (by decide) rfl) <|A_A rfl (A_S (k:=0) ti51 rfl rfl rfl) <|A_A rfl (A_X (rCheck_ok r.F) rfl) <|A_A rfl (B_B rfl rfl) <|enk K3 ?_
 refine A_H rfl (fun h11=>?_) (fun h11=>?_)
 ·refine esk rfl <|A_R ?_
  exact retR1 (.inr rfl) results27 (A_L (A_U rfl (A_b (by exact (rgErr_1 (fun h=>h11 (fErr_ok h))).symm))))
 have hF:FOk r.F:=fErr_zero.1 (n_N h11)
 have hS:=hF.1
 refine esp K2 <|esr rfl fun _ K5=>A_A rfl (A_B runUnderlying53 rfl sizeOf29 (by decide) rfl) <|A_A rfl (A_K (k:=0) isAgg29 rfl rfl rfl) <|A_A rfl (A_5 rfl runUnderlying29 rfl) <|emm rfl <|enk K5 <|A_C fun _ K6=>A_C fun _ K7=>?_
 refine B_N (⟨[(1,aEx (.pointer (some ⟨b1_1,0,none⟩))),(3,aInt (↑r.Points.length:Int)),(20,aBool (decide (((↑r.Points.length:Int)<2)\/(64<(↑r.Points.length:Int)))))],[oBox b1_1 53 [aInt r.F.P,aInt r.F.M,aSl 1 false aInt r.F.mod,aInt r.Kind,aInt r.K,aInt r.D,aSl 1 false aInt r.Points]]⟩) ?_ ?_
 ·refine A_F <|emm rfl <|A_A rfl (A_m rfl rfl) <|emm rfl ?_
  refine A_6 rfl rfl rfl rfl (fun hg17=>?_) (fun hg17=>?_)
  ·refine emm rfl <|A_M rfl rfl rfl rfl (d_F hg17) <|A_A rfl (C_M rfl rfl) <|A_A rfl (A_3 rfl (d_F hg17) rfl) <|A_O ?_
   exact A_J ⟨rfl,rfl,A_a (dq_Q ((or_iff_right hg17).trans Iff.rfl)),trivial⟩ rfl
  refine A_E rfl rfl rfl rfl (d_T hg17) <|A_A rfl (A_q rfl (d_T hg17) rfl) <|A_O ?_
  exact A_J ⟨rfl,rfl,A_a (dq_T rfl (Or.inl hg17)),trivial⟩ rfl
 refine A_1 K7 ?_
 refine A_H rfl (fun h20=>?_) (fun h20=>?_)
 ·refine esk rfl <|A_R ?_
  exact retR1 (.inr rfl) results27 (A_L (A_U rfl (A_b (by exact (rgErr_4 hF h20).symm))))
 refine esp K6 <|A_C fun _ K9=>A_C fun _ K10=>?_
 refine B_N (⟨[(1,aEx (.pointer (some ⟨b1_1,0,none⟩))),(3,aInt (↑r.Points.length:Int)),(52,aBool (decide ((((((r.Kind≠0)/\(r.Kind≠1))\/(r.D<1))\/(((↑r.Points.length:Int)-1)<r.D))\/(r.K<1))\/(r.D<r.K))))],[oBox b1_1 53 [aInt r.F.P,aInt r.F.M,aSl 1 false aInt r.F.mod,aInt r.Kind,aInt r.K,aInt r.D,aSl 1 false aInt r.Points]]⟩) ?_ ?_
 ·refine A_F <|A_A rfl (A_B runUnderlying53 rfl sizeOf3 (by decide) rfl) <|A_A rfl (A_K (k:=0) isAgg3 rfl rfl rfl) <|A_A rfl (B_B rfl rfl) <|emm rfl ?_
  refine B_I rfl rfl rfl rfl (fun hg24=>?_) (fun hg24=>?_)
  ·refine A_A rfl (A_B runUnderlying53 rfl sizeOf3 (by decide) rfl) <|A_M rfl rfl rfl rfl (d_T hg24) <|A_A rfl (A_K (k:=0) isAgg3 rfl rfl rfl) <|A_M rfl rfl rfl rfl (d_T hg24) <|A_A rfl (B_B rfl rfl) <|A_A rfl (A_q rfl (d_T hg24) rfl) <|emm rfl ?_
   refine A_6 rfl rfl rfl rfl (fun hg29=>?_) (fun hg29=>?_)
   ·refine A_A rfl (A_B runUnderlying53 rfl sizeOf3 (by decide) rfl) <|A_M rfl rfl rfl rfl (d_F hg29) <|A_A rfl (A_K (k:=0) isAgg3 rfl rfl rfl) <|A_M rfl rfl rfl rfl (d_F hg29) <|A_A rfl (A_m rfl rfl) <|A_A rfl (A_3 rfl (d_F hg29) rfl) <|emm rfl ?_
    refine A_6 rfl rfl rfl rfl (fun hg34=>?_) (fun hg34=>?_)
    ·refine A_A rfl (A_B runUnderlying53 rfl sizeOf3 (by decide) rfl) <|A_M rfl rfl rfl rfl (d_F hg34) <|A_A rfl (A_K (k:=0) isAgg3 rfl rfl rfl) <|A_M rfl rfl rfl rfl (d_F hg34) <|emm rfl <|A_M rfl rfl rfl rfl (d_F hg34) <|A_A rfl (B_L rfl rfl) <|A_M rfl rfl rfl rfl (d_F hg34) <|A_A rfl (C_M rfl rfl) <|A_A rfl (A_3 rfl (d_F hg34) rfl) <|emm rfl ?_
     refine A_6 rfl rfl rfl rfl (fun hg41=>?_) (fun hg41=>?_)
     ·refine A_A rfl (A_B runUnderlying53 rfl sizeOf3 (by decide) rfl) <|A_M rfl rfl rfl rfl (d_F hg41) <|A_A rfl (A_K (k:=0) isAgg3 rfl rfl rfl) <|A_M rfl rfl rfl rfl (d_F hg41) <|A_A rfl (A_m rfl rfl) <|A_A rfl (A_3 rfl (d_F hg41) rfl) <|emm rfl ?_
      refine A_6 rfl rfl rfl rfl (fun hg46=>?_) (fun hg46=>?_)
      ·refine A_A rfl (A_B runUnderlying53 rfl sizeOf3 (by decide) rfl) <|A_M rfl rfl rfl rfl (d_F hg46) <|A_A rfl (A_K (k:=0) isAgg3 rfl rfl rfl) <|A_M rfl rfl rfl rfl (d_F hg46) <|A_A rfl (A_B runUnderlying53 rfl sizeOf3 (by decide) rfl) <|A_M rfl rfl rfl rfl (d_F hg46) <|A_A rfl (A_K (k:=0) isAgg3 rfl rfl rfl) <|A_M rfl rfl rfl rfl (d_F hg46) <|A_A rfl (C_M rfl rfl) <|A_A rfl (A_3 rfl (d_F hg46) rfl) <|A_O ?_
       exact A_J ⟨rfl,rfl,A_a (dq_Q ((or_iff_right (fun h=>h.elim (fun h=>h.elim (fun h=>h.elim (fun h=>hg29 h.2) hg34) hg41) hg46)).trans Iff.rfl)),trivial⟩ rfl
      refine A_E rfl rfl rfl rfl (d_T hg46) <|A_E rfl rfl rfl rfl (d_T hg46) <|A_E rfl rfl rfl rfl (d_T hg46) <|A_E rfl rfl rfl rfl (d_T hg46) <|A_A rfl (A_q rfl (d_T hg46) rfl) <|A_O ?_
      exact A_J ⟨rfl,rfl,A_a (dq_T rfl (Or.inl (Or.inr hg46))),trivial⟩ rfl
     refine A_E rfl rfl rfl rfl (d_T hg41) <|A_E rfl rfl rfl rfl (d_T hg41) <|A_A rfl (A_q rfl (d_T hg41) rfl) <|emm rfl <|A_E rfl rfl rfl rfl rfl <|A_E rfl rfl rfl rfl rfl <|A_E rfl rfl rfl rfl rfl <|A_E rfl rfl rfl rfl rfl <|A_E rfl rfl rfl rfl rfl <|A_A rfl (A_q rfl rfl rfl) <|A_O ?_
     exact A_J ⟨rfl,rfl,A_a (dq_T rfl (Or.inl (Or.inl (Or.inr hg41)))),trivial⟩ rfl
    refine A_E rfl rfl rfl rfl (d_T hg34) <|A_E rfl rfl rfl rfl (d_T hg34) <|A_E rfl rfl rfl rfl (d_T hg34) <|A_E rfl rfl rfl rfl (d_T hg34) <|A_A rfl (A_q rfl (d_T hg34) rfl) <|emm rfl <|A_E rfl rfl rfl rfl rfl <|A_E rfl rfl rfl rfl rfl <|A_E rfl rfl rfl rfl rfl <|A_A rfl (A_q rfl rfl rfl) <|emm rfl <|A_E rfl rfl rfl rfl rfl <|A_E rfl rfl rfl rfl rfl <|A_E rfl rfl rfl rfl rfl <|A_E rfl rfl rfl rfl rfl <|A_E rfl rfl rfl rfl rfl <|A_A rfl (A_q rfl rfl rfl) <|A_O ?_
    exact A_J ⟨rfl,rfl,A_a (dq_T rfl (Or.inl (Or.inl (Or.inl (Or.inr hg34))))),trivial⟩ rfl
   refine A_E rfl rfl rfl rfl (d_T hg29) <|A_E rfl rfl rfl rfl (d_T hg29) <|A_A rfl (A_q rfl (d_T hg29) rfl) <|emm rfl <|A_E rfl rfl rfl rfl rfl <|A_E rfl rfl rfl rfl rfl <|A_E rfl rfl rfl rfl rfl <|A_E rfl rfl rfl rfl rfl <|A_E rfl rfl rfl rfl rfl <|A_A rfl (A_q rfl rfl rfl) <|emm rfl <|A_E rfl rfl rfl rfl rfl <|A_E rfl rfl rfl rfl rfl <|A_E rfl rfl rfl rfl rfl <|A_A rfl (A_q rfl rfl rfl) <|emm rfl <|A_E rfl rfl rfl rfl rfl <|A_E rfl rfl rfl rfl rfl <|A_E rfl rfl rfl rfl rfl <|A_E rfl rfl rfl rfl rfl <|A_E rfl rfl rfl rfl rfl <|A_A rfl (A_q rfl rfl rfl) <|A_O ?_
   exact A_J ⟨rfl,rfl,A_a (dq_T rfl (Or.inl (Or.inl (Or.inl (Or.inl ⟨hg24,hg29⟩))))),trivial⟩ rfl
  refine A_E rfl rfl rfl rfl (d_F hg24) <|A_E rfl rfl rfl rfl (d_F hg24) <|A_A rfl (A_3 rfl (d_F hg24) rfl) <|emm rfl <|A_M rfl rfl rfl rfl rfl <|A_A rfl (A_B runUnderlying53 rfl sizeOf3 (by decide) rfl) <|A_M rfl rfl rfl rfl rfl <|A_A rfl (A_K (k:=0) isAgg3 rfl rfl rfl) <|A_M rfl rfl rfl rfl rfl <|A_A rfl (A_m rfl rfl) <|A_A rfl (A_3 rfl rfl rfl) <|emm rfl ?_
  refine A_6 rfl rfl rfl rfl (fun hg34=>?_) (fun hg34=>?_)
  ·refine A_A rfl (A_B runUnderlying53 rfl sizeOf3 (by decide) rfl) <|A_M rfl rfl rfl rfl (d_F hg34) <|A_A rfl (A_K (k:=0) isAgg3 rfl rfl rfl) <|A_M rfl rfl rfl rfl (d_F hg34) <|emm rfl <|A_M rfl rfl rfl rfl (d_F hg34) <|A_A rfl (B_L rfl rfl) <|A_M rfl rfl rfl rfl (d_F hg34) <|A_A rfl (C_M rfl rfl) <|A_A rfl (A_3 rfl (d_F hg34) rfl) <|emm rfl ?_
   refine A_6 rfl rfl rfl rfl (fun hg41=>?_) (fun hg41=>?_)
   ·refine A_A rfl (A_B runUnderlying53 rfl sizeOf3 (by decide) rfl) <|A_M rfl rfl rfl rfl (d_F hg41) <|A_A rfl (A_K (k:=0) isAgg3 rfl rfl rfl) <|A_M rfl rfl rfl rfl (d_F hg41) <|A_A rfl (A_m rfl rfl) <|A_A rfl (A_3 rfl (d_F hg41) rfl) <|emm rfl ?_
    refine A_6 rfl rfl rfl rfl (fun hg46=>?_) (fun hg46=>?_)
    ·refine A_A rfl (A_B runUnderlying53 rfl sizeOf3 (by decide) rfl) <|A_M rfl rfl rfl rfl (d_F hg46) <|A_A rfl (A_K (k:=0) isAgg3 rfl rfl rfl) <|A_M rfl rfl rfl rfl (d_F hg46) <|A_A rfl (A_B runUnderlying53 rfl sizeOf3 (by decide) rfl) <|A_M rfl rfl rfl rfl (d_F hg46) <|A_A rfl (A_K (k:=0) isAgg3 rfl rfl rfl) <|A_M rfl rfl rfl rfl (d_F hg46) <|A_A rfl (C_M rfl rfl) <|A_A rfl (A_3 rfl (d_F hg46) rfl) <|A_O ?_
     exact A_J ⟨rfl,rfl,A_a (dq_Q ((or_iff_right (fun h=>h.elim (fun h=>h.elim (fun h=>h.elim (fun h=>hg24 h.1) hg34) hg41) hg46)).trans Iff.rfl)),trivial⟩ rfl
    refine A_E rfl rfl rfl rfl (d_T hg46) <|A_E rfl rfl rfl rfl (d_T hg46) <|A_E rfl rfl rfl rfl (d_T hg46) <|A_E rfl rfl rfl rfl (d_T hg46) <|A_A rfl (A_q rfl (d_T hg46) rfl) <|A_O ?_
    exact A_J ⟨rfl,rfl,A_a (dq_T rfl (Or.inl (Or.inr hg46))),trivial⟩ rfl
   refine A_E rfl rfl rfl rfl (d_T hg41) <|A_E rfl rfl rfl rfl (d_T hg41) <|A_A rfl (A_q rfl (d_T hg41) rfl) <|emm rfl <|A_E rfl rfl rfl rfl rfl <|A_E rfl rfl rfl rfl rfl <|A_E rfl rfl rfl rfl rfl <|A_E rfl rfl rfl rfl rfl <|A_E rfl rfl rfl rfl rfl <|A_A rfl (A_q rfl rfl rfl) <|A_O ?_
   exact A_J ⟨rfl,rfl,A_a (dq_T rfl (Or.inl (Or.inl (Or.inr hg41)))),trivial⟩ rfl
  refine A_E rfl rfl rfl rfl (d_T hg34) <|A_E rfl rfl rfl rfl (d_T hg34) <|A_E rfl rfl rfl rfl (d_T hg34) <|A_E rfl rfl rfl rfl (d_T hg34) <|A_A rfl (A_q rfl (d_T hg34) rfl) <|emm rfl <|A_E rfl rfl rfl rfl rfl <|A_E rfl rfl rfl rfl rfl <|A_E rfl rfl rfl rfl rfl <|A_A rfl (A_q rfl rfl rfl) <|emm rfl <|A_E rfl rfl rfl rfl rfl <|A_E rfl rfl rfl rfl rfl <|A_E rfl rfl rfl rfl rfl <|A_E rfl rfl rfl rfl rfl <|A_E rfl rfl rfl rfl rfl <|A_A rfl (A_q rfl rfl rfl) <|A_O ?_
  exact A_J ⟨rfl,rfl,A_a (dq_T rfl (Or.inl (Or.inl (Or.inl (Or.inr hg34))))),trivial⟩ rfl
 refine A_1 K10 ?_
 refine A_H rfl (fun h52=>?_) (fun h52=>?_)
 ·refine esk rfl <|A_R ?_
  exact retR1 (.inr rfl) results27 (A_L (A_U rfl (A_b (by exact (G_C hF h20 (by unfold rgBad;omega)).symm))))
 refine esp K9 <|A_C fun _ K12=>A_C fun _ K13=>?_
 refine B_N (⟨[(1,aEx (.pointer (some ⟨b1_1,0,none⟩))),(3,aInt (↑r.Points.length:Int)),(64,aBool (decide ((r.Kind=1)/\(r.D≠((2*r.K)-2)))))],[oBox b1_1 53 [aInt r.F.P,aInt r.F.M,aSl 1 false aInt r.F.mod,aInt r.Kind,aInt r.K,aInt r.D,aSl 1 false aInt r.Points]]⟩) ?_ ?_
 ·refine A_F <|A_A rfl (A_B runUnderlying53 rfl sizeOf3 (by decide) rfl) <|A_A rfl (A_K (k:=0) isAgg3 rfl rfl rfl) <|A_A rfl (B_W rfl rfl) <|emm rfl ?_
  refine B_I rfl rfl rfl rfl (fun hg56=>?_) (fun hg56=>?_)
  ·refine A_A rfl (A_B runUnderlying53 rfl sizeOf3 (by decide) rfl) <|A_M rfl rfl rfl rfl (d_T hg56) <|A_A rfl (A_K (k:=0) isAgg3 rfl rfl rfl) <|A_M rfl rfl rfl rfl (d_T hg56) <|A_A rfl (A_B runUnderlying53 rfl sizeOf3 (by decide) rfl) <|A_M rfl rfl rfl rfl (d_T hg56) <|A_A rfl (A_K (k:=0) isAgg3 rfl rfl rfl) <|A_M rfl rfl rfl rfl (d_T hg56) <|A_A rfl (B_2 rfl rfl) <|A_M rfl rfl rfl rfl (d_T hg56) <|A_A rfl (B_L rfl rfl) <|A_M rfl rfl rfl rfl (d_T hg56) <|A_A rfl (B_B rfl rfl) <|A_A rfl (A_q rfl (d_T hg56) rfl) <|A_O ?_
   exact A_J ⟨rfl,rfl,A_a (dq_Q ((and_iff_right hg56).trans Iff.rfl)),trivial⟩ rfl
  refine A_E rfl rfl rfl rfl (d_F hg56) <|A_E rfl rfl rfl rfl (d_F hg56) <|A_E rfl rfl rfl rfl (d_F hg56) <|A_E rfl rfl rfl rfl (d_F hg56) <|A_E rfl rfl rfl rfl (d_F hg56) <|A_E rfl rfl rfl rfl (d_F hg56) <|A_A rfl (A_3 rfl (d_F hg56) rfl) <|A_O ?_
  exact A_J ⟨rfl,rfl,A_a (dq_F rfl (fun h=>hg56 h.1)),trivial⟩ rfl
 refine A_1 K13 ?_
 refine A_H rfl (fun h64=>?_) (fun h64=>?_)
 ·refine esk rfl <|A_R ?_
  exact retR1 (.inr rfl) results27 (A_L (A_U rfl (A_b (by exact (G_C hF h20 (by unfold rgBad;omega)).symm))))
 have hrb:¬rgBad r:=by unfold rgBad;omega
 have hkb:1<=r.K/\r.K<=64:=by omega
 have hlw:(r.Points.map (rgPow r)).length=r.Points.length:=List.length_map _
 refine esp K12 <|A_C fun _ K15=>esr rfl fun _ K16=>A_A rfl (A_B runUnderlying53 rfl sizeOf51 (by decide) rfl) <|A_A rfl (A_S (k:=0) ti51 rfl rfl rfl) <|A_A rfl (A_B runUnderlying53 rfl sizeOf29 (by decide) rfl) <|A_A rfl (A_K (k:=0) isAgg29 rfl rfl rfl) <|A_A rfl (A_X (rEntries_ok r.F r.Points) rfl) <|A_A rfl (B_B rfl rfl) <|enk K16 ?_
 refine A_H rfl (fun h70=>?_) (fun h70=>?_)
 ·refine esk rfl <|A_R ?_
  exact retR1 (.inr rfl) results27 (A_L (A_U rfl (A_b (by exact (rgErr_2 hF h20 hrb (by by_cases h:outF r.F r.Points;exact h;exact absurd (C_g.2 h) h70)).symm))))
 have hel:=C_g.1 (n_N h70)
 refine esp K15 <|A_C fun _ K18=>esk rfl <|A_I <|A_Y (fun (i:Int)=>(⟨[(1,aEx (.pointer (some ⟨b1_1,0,none⟩))),(3,aInt (↑r.Points.length:Int)),(4,aInt i)],[oBox b1_1 53 [aInt r.F.P,aInt r.F.M,aSl 1 false aInt r.F.mod,aInt r.Kind,aInt r.K,aInt r.D,aSl 1 false aInt r.Points]]⟩:St)) (fun (i:Int)=>(0<=i)/\(i<=r.Points.length)/\((r.Points.take i.toNat).Nodup)) (fun (i:Int)=>(r.Points.length-i).toNat) 0 ⟨(by omega),(by omega),(by simp)⟩ (A_J ⟨rfl,rfl,A_Q (A_k (show 0=(0:Int) by rfl)),trivial⟩ rfl) ?_
 rintro i ⟨k0,k1,kn⟩
 show Ent _ ⟨_,[_]⟩ _
 refine A_C fun _ K20=>esr rfl fun _ K21=>A_A rfl (A_m rfl rfl) <|enk K21 ?_
 refine A_H rfl (fun h73=>?_) (fun h73=>?_)
 ·refine esp K20 <|A_C fun _ K22=>A_I <|esk rfl <|A_I <|A_Y (fun (j:Int)=>(⟨[(1,aEx (.pointer (some ⟨b1_1,0,none⟩))),(3,aInt (↑r.Points.length:Int)),(4,aInt i),(5,aInt j)],[oBox b1_1 53 [aInt r.F.P,aInt r.F.M,aSl 1 false aInt r.F.mod,aInt r.Kind,aInt r.K,aInt r.D,aSl 1 false aInt r.Points]]⟩:St)) (fun (j:Int)=>(0<=j)/\(j<=i)/\(∀q:Nat,(q:Int)<j->ix 0 r.Points i≠ix 0 r.Points q)) (fun (j:Int)=>(i-j).toNat) 0 ⟨(by omega),‹_›,(fun q hq=>by omega)⟩ (A_J ⟨rfl,rfl,rfl,A_Q (A_k (show 0=(0:Int) by rfl)),trivial⟩ rfl) ?_
  rintro j ⟨j0,j1,jn⟩
  show Ent _ ⟨_,[_]⟩ _
  refine A_C fun _ K24=>esr rfl fun _ K25=>A_A rfl (A_m rfl rfl) <|enk K25 ?_
  refine A_H rfl (fun h78=>?_) (fun h78=>?_)
  ·refine esp K24 <|A_C fun _ K26=>A_I <|A_C fun _ K27=>A_u 11 mixed (by kernel_rfl) (by kernel_rfl) (by kernel_rfl) <|dw_o rfl (A_B runUnderlying53 rfl sizeOf29 (by decide) rfl) <|dw_o rfl (A_K (k:=0) isAgg29 rfl rfl rfl) <|dw_o rfl (A_D rfl) <|dw_o rfl (A_W 0 sl29 rfl rfl) <|dw_o rfl (A_P ti3 rfl) <|dw_o rfl (A_B runUnderlying53 rfl sizeOf29 (by decide) rfl) <|dw_o rfl (A_K (k:=0) isAgg29 rfl rfl rfl) <|dw_o rfl (A_D rfl) <|dw_o rfl (A_W 0 sl29 rfl rfl) <|dw_o rfl (A_P ti3 rfl) <|dw_o rfl (B_W rfl rfl) <|A_9 <|enk K27 ?_
   refine A_H rfl (fun h91=>?_) (fun h91=>?_)
   ·refine esk rfl <|A_R ?_
    exact retR1 (.inr rfl) results27 (A_L (A_U rfl (A_b (by exact (rgErr_18 hF h20 hrb hel (D_W (n:=(i+1).toNat) (fun h=>((B_n r.Points k0 h73).1 h).2 (by rw [h91];exact E_Y 0 r.Points _ _ (by omega) (by omega))))).symm))))
   refine esp K26 <|A_F <|emm rfl <|A_A rfl (A_g rfl rfl) <|emm rfl <|A_O ?_
   refine A_T (s:=(j)) (j+1) ⟨(by omega),‹_›,(fun q hq=>by by_cases hqj:(q:Int)=j;(rw [hqj];exact h91);exact jn q (by omega))⟩ (by omega) (A_J ⟨rfl,rfl,rfl,rfl,trivial⟩ rfl)
  refine A_Z <|A_1 K22 <|A_F <|emm rfl <|A_A rfl (A_g rfl rfl) <|emm rfl <|A_O ?_
  refine A_T (s:=(i)) (i+1) ⟨(by omega),‹_›,((B_n r.Points k0 h73).2 ⟨kn,fun hm=>by obtain ⟨q,q1,q2,q3⟩:=E_Q 0 r.Points _ _ hm;exact jn q (by omega) q3.symm⟩)⟩ (by omega) (A_J ⟨rfl,rfl,rfl,trivial⟩ rfl)
 have hnd:r.Points.Nodup:=by rw [t_L (by omega)] at kn;exact kn
 refine A_Z <|A_1 K18 <|A_C fun _ K29=>esk rfl <|A_I <|A_Y (fun (u:Int)=>(⟨[(1,aEx (.pointer (some ⟨b1_1,0,none⟩))),(3,aInt (↑r.Points.length:Int)),(6,aInt u)],[oBox b1_1 53 [aInt r.F.P,aInt r.F.M,aSl 1 false aInt r.F.mod,aInt r.Kind,aInt r.K,aInt r.D,aSl 1 false aInt r.Points]]⟩:St)) (fun (u:Int)=>(0<=u)/\(u<=r.Points.length)/\(r.Kind=1->((r.Points.map (rgPow r)).take u.toNat).Nodup)) (fun (u:Int)=>(r.Points.length-u).toNat) 0 ⟨(by omega),(by omega),(fun _=>by simp)⟩ (A_J ⟨rfl,rfl,A_Q (A_k (show 0=(0:Int) by rfl)),trivial⟩ rfl) ?_
 rintro u ⟨m0,m1,mn⟩
 show Ent _ ⟨_,[_]⟩ _
 refine A_C fun _ K31=>esr rfl fun _ K32=>A_A rfl (A_m rfl rfl) <|enk K32 ?_
 refine A_H rfl (fun h94=>?_) (fun h94=>?_)
 ·have hwi:=G_J (r:=r) m0 h94
  refine esp K31 <|A_C fun _ K33=>A_I <|esk rfl <|A_I <|A_Y (fun (v:Int)=>(⟨[(1,aEx (.pointer (some ⟨b1_1,0,none⟩))),(3,aInt (↑r.Points.length:Int)),(6,aInt u),(7,aInt v)],[oBox b1_1 53 [aInt r.F.P,aInt r.F.M,aSl 1 false aInt r.F.mod,aInt r.Kind,aInt r.K,aInt r.D,aSl 1 false aInt r.Points]]⟩:St)) (fun (v:Int)=>(0<=v)/\(v<=u)/\(r.Kind=1->∀q:Nat,(q:Int)<v->ix 0 (r.Points.map (rgPow r)) u≠ix 0 (r.Points.map (rgPow r)) q)) (fun (v:Int)=>(u-v).toNat) 0 ⟨(by omega),‹_›,(fun _ q hq=>by omega)⟩ (A_J ⟨rfl,rfl,rfl,A_Q (A_k (show 0=(0:Int) by rfl)),trivial⟩ rfl) ?_
  rintro v ⟨v0,v1,vn⟩
  show Ent _ ⟨_,[_]⟩ _
  refine A_C fun _ K35=>esr rfl fun _ K36=>A_A rfl (A_m rfl rfl) <|enk K36 ?_
  refine A_H rfl (fun h99=>?_) (fun h99=>?_)
  ·have hwj:=G_J (r:=r) (i:=v) v0 (by omega)
   refine esp K35 <|A_C fun _ K37=>A_I <|A_C fun _ K38=>?_
   refine B_N (⟨[(1,aEx (.pointer (some ⟨b1_1,0,none⟩))),(3,aInt (↑r.Points.length:Int)),(6,aInt u),(7,aInt v),(129,aBool (decide ((r.Kind=1)/\((powF r.F (ix 0 r.Points u) (r.K-1))=(powF r.F (ix 0 r.Points v) (r.K-1))))))],[oBox b1_1 53 [aInt r.F.P,aInt r.F.M,aSl 1 false aInt r.F.mod,aInt r.Kind,aInt r.K,aInt r.D,aSl 1 false aInt r.Points]]⟩) ?_ ?_
   ·refine A_u 28 mixed (by kernel_rfl) (E_b (by kernel_rfl)) (by kernel_rfl) <|dw_o rfl (A_B runUnderlying53 rfl sizeOf3 (by decide) rfl) <|dw_o rfl (A_K (k:=0) isAgg3 rfl rfl rfl) <|dw_o rfl (B_W rfl rfl) <|dw_o rfl (A_D rfl) ?_
    refine G_P rfl rfl rfl rfl (fun hg105=>?_) (fun hg105=>?_)
    ·refine dw_o rfl (A_B runUnderlying53 rfl sizeOf51 (by decide) rfl) <|A_r rfl rfl rfl rfl (d_T hg105) <|dw_o rfl (A_S (k:=0) ti51 rfl rfl rfl) <|A_r rfl rfl rfl rfl (d_T hg105) <|dw_o rfl (A_B runUnderlying53 rfl sizeOf29 (by decide) rfl) <|A_r rfl rfl rfl rfl (d_T hg105) <|dw_o rfl (A_K (k:=0) isAgg29 rfl rfl rfl) <|A_r rfl rfl rfl rfl (d_T hg105) <|dw_o rfl (A_D rfl) <|A_r rfl rfl rfl rfl (d_T hg105) <|dw_o rfl (A_W 0 sl29 rfl rfl) <|A_r rfl rfl rfl rfl (d_T hg105) <|dw_o rfl (A_P ti3 rfl) <|A_r rfl rfl rfl rfl (d_T hg105) <|dw_o rfl (A_B runUnderlying53 rfl sizeOf3 (by decide) rfl) <|A_r rfl rfl rfl rfl (d_T hg105) <|dw_o rfl (A_K (k:=0) isAgg3 rfl rfl rfl) <|A_r rfl rfl rfl rfl (d_T hg105) <|dw_o rfl (B_L rfl rfl) <|A_r rfl rfl rfl rfl (d_T hg105) <|dw_o rfl (A_X (rpower_ok r.F (ix 0 r.Points u) (r.K-1) ‹_›) rfl) <|A_r rfl rfl rfl rfl (d_T hg105) <|dw_o rfl (A_B runUnderlying53 rfl sizeOf51 (by decide) rfl) <|A_r rfl rfl rfl rfl (d_T hg105) <|dw_o rfl (A_S (k:=0) ti51 rfl rfl rfl) <|A_r rfl rfl rfl rfl (d_T hg105) <|dw_o rfl (A_B runUnderlying53 rfl sizeOf29 (by decide) rfl) <|A_r rfl rfl rfl rfl (d_T hg105) <|dw_o rfl (A_K (k:=0) isAgg29 rfl rfl rfl) <|A_r rfl rfl rfl rfl (d_T hg105) ?_
     refine dw_o rfl (A_D rfl) <|A_r rfl rfl rfl rfl (d_T hg105) <|dw_o rfl (A_W 0 sl29 rfl rfl) <|A_r rfl rfl rfl rfl (d_T hg105) <|dw_o rfl (A_P ti3 rfl) <|A_r rfl rfl rfl rfl (d_T hg105) <|dw_o rfl (A_B runUnderlying53 rfl sizeOf3 (by decide) rfl) <|A_r rfl rfl rfl rfl (d_T hg105) <|dw_o rfl (A_K (k:=0) isAgg3 rfl rfl rfl) <|A_r rfl rfl rfl rfl (d_T hg105) <|dw_o rfl (B_L rfl rfl) <|A_r rfl rfl rfl rfl (d_T hg105) <|dw_o rfl (A_X (rpower_ok r.F (ix 0 r.Points v) (r.K-1) ‹_›) rfl) <|A_r rfl rfl rfl rfl (d_T hg105) <|dw_o rfl (B_W rfl rfl) <|dw_o rfl (A_q rfl (d_T hg105) rfl) <|A_9 <|A_O ?_
     exact A_J ⟨rfl,rfl,rfl,rfl,A_a (dq_Q ((and_iff_right hg105).trans Iff.rfl)),trivial⟩ rfl
    refine A_o rfl rfl rfl rfl (d_F hg105) <|A_o rfl rfl rfl rfl (d_F hg105) <|A_o rfl rfl rfl rfl (d_F hg105) <|A_o rfl rfl rfl rfl (d_F hg105) <|A_o rfl rfl rfl rfl (d_F hg105) <|A_o rfl rfl rfl rfl (d_F hg105) <|A_o rfl rfl rfl rfl (d_F hg105) <|A_o rfl rfl rfl rfl (d_F hg105) <|A_o rfl rfl rfl rfl (d_F hg105) <|A_o rfl rfl rfl rfl (d_F hg105) <|A_o rfl rfl rfl rfl (d_F hg105) <|A_o rfl rfl rfl rfl (d_F hg105) <|A_o rfl rfl rfl rfl (d_F hg105) <|A_o rfl rfl rfl rfl (d_F hg105) <|A_o rfl rfl rfl rfl (d_F hg105) <|A_o rfl rfl rfl rfl (d_F hg105) <|A_o rfl rfl rfl rfl (d_F hg105) <|A_o rfl rfl rfl rfl (d_F hg105) <|A_o rfl rfl rfl rfl (d_F hg105) <|A_o rfl rfl rfl rfl (d_F hg105) <|A_o rfl rfl rfl rfl (d_F hg105) <|A_o rfl rfl rfl rfl (d_F hg105) <|dw_o rfl (A_3 rfl (d_F hg105) rfl) <|A_9 <|A_O ?_
    exact A_J ⟨rfl,rfl,rfl,rfl,A_a (dq_F rfl (fun h=>hg105 h.1)),trivial⟩ rfl
   refine A_1 K38 ?_
   refine A_H rfl (fun h129=>?_) (fun h129=>?_)
   ·refine esk rfl <|A_R ?_
    exact retR1 (.inr rfl) results27 (A_L (A_U rfl (A_b (by exact (rgErr_5 hF h20 hrb hel hnd h129.1 (D_W (n:=(u+1).toNat) (fun h=>((B_n (r.Points.map (rgPow r)) m0 (by omega)).1 h).2 (by rw [hwi,show rgPow r (ix 0 r.Points u)=rgPow r (ix 0 r.Points v) from h129.2,<- hwj];exact E_Y 0 (r.Points.map (rgPow r)) _ _ (by omega) (by omega))))).symm))))
   refine esp K37 <|A_F <|emm rfl <|A_A rfl (A_g rfl rfl) <|emm rfl <|A_O ?_
   refine A_T (s:=(v)) (v+1) ⟨(by omega),‹_›,(fun hk q hq=>by by_cases hqj:(q:Int)=v;(rw [hqj,hwi,hwj];exact fun h=>h129 ⟨hk,h⟩);exact vn hk q (by omega))⟩ (by omega) (A_J ⟨rfl,rfl,rfl,rfl,trivial⟩ rfl)
  refine A_Z <|A_1 K33 <|A_F <|emm rfl <|A_A rfl (A_g rfl rfl) <|emm rfl <|A_O ?_
  refine A_T (s:=(u)) (u+1) ⟨(by omega),‹_›,(fun hk=>(B_n (r.Points.map (rgPow r)) m0 (by omega)).2 ⟨mn hk,fun hm=>by obtain ⟨q,q1,q2,q3⟩:=E_Q 0 (r.Points.map (rgPow r)) _ _ hm;exact vn hk q (by omega) q3.symm⟩)⟩ (by omega) (A_J ⟨rfl,rfl,rfl,trivial⟩ rfl)
 refine A_Z <|A_1 K29 <|esk rfl <|A_R ?_
 exact retR1 (.inr rfl) results27 (A_L (A_U rfl (A_b (by exact (C_y.2 ⟨hF,by omega,hrb,hel,hnd,fun hk=>by have:=mn hk;rw [t_L (by omega)] at this;exact this⟩).symm))))

theorem RgCheck_ok (r:Rgn) (hk1 : -9223372036854775808<=r.K) (hk2:r.K<=9223372036854775807) (hd1 : -9223372036854775808<=r.D) (hd2:r.D<=9223372036854775807):Ctr Try.prog 28 [aRgn r] (aInt (rgErr r)):=by
 refine B_E Try.call28 func28 rfl rfl ?_
 intro w O
 refine A_l 0 2 rfl rfl fun hlen0_2=>A_l 0 6 rfl rfl fun hlen0_6=>esr rfl fun _ K1=>A_w rfl rfl (AllOne.mem ⟨(A_N _),(A_N _),A_j,(A_N _),(A_N _),(A_N _),A_j,trivial⟩) fun b1_1=>emm rfl <|enk K1 <|esr rfl fun _ K2=>A_A rfl (A_B runUnderlying53 rfl sizeOf51 (by decide) rfl) <|A_A rfl (A_S (k:=0) ti51 rfl rfl rfl) ?_
 rcases Classical.em (FOk r.F) with hF | hF
 ·refine A_A rfl (A_X (CtrF.ctr (New_ok r.F hF)) rfl) <|emm rfl <|A_A rfl (A_V rfl rfl) <|A_A rfl (A_V rfl rfl) <|emm rfl <|enk K2 <|esr rfl fun _ K3=>A_A rfl (A_B runUnderlying53 rfl sizeOf29 (by decide) rfl) <|A_A rfl (A_K (k:=0) isAgg29 rfl rfl rfl) <|A_A rfl (A_5 rfl runUnderlying29 rfl) <|emm rfl <|enk K3 <|A_C fun _ K4=>A_I <|esr rfl fun _ K5=>A_A rfl (B_B rfl rfl) <|emm rfl <|enk K5 <|C_4 rfl (by decide) <|A_C fun _ K6=>?_
  refine B_N (⟨[(1,aEx (.pointer (some ⟨b1_1,0,none⟩))),(3,aGF r.F),(5,aInt (↑r.Points.length:Int)),(26,aBool (decide (((↑r.Points.length:Int)<2)\/(64<(↑r.Points.length:Int)))))],[oBox b1_1 53 [aInt r.F.P,aInt r.F.M,aSl 1 false aInt r.F.mod,aInt r.Kind,aInt r.K,aInt r.D,aSl 1 false aInt r.Points]]⟩) ?_ ?_
  ·refine A_F <|emm rfl <|A_A rfl (A_m rfl rfl) <|emm rfl ?_
   refine A_6 rfl rfl rfl rfl (fun hg29=>?_) (fun hg29=>?_)
   ·refine emm rfl <|A_M rfl rfl rfl rfl (d_F hg29) <|A_A rfl (C_M rfl rfl) <|A_A rfl (A_3 rfl (d_F hg29) rfl) <|emm rfl <|A_O ?_
    exact A_J ⟨rfl,rfl,rfl,A_a (dq_Q ((or_iff_right hg29).trans Iff.rfl)),trivial⟩ rfl
   refine A_E rfl rfl rfl rfl (d_T hg29) <|A_A rfl (A_q rfl (d_T hg29) rfl) <|emm rfl <|A_O ?_
   exact A_J ⟨rfl,rfl,rfl,A_a (dq_T rfl (Or.inl hg29)),trivial⟩ rfl
  refine A_1 K6 ?_
  refine A_H rfl (fun h26=>?_) (fun h26=>?_)
  ·refine esk rfl <|A_R ?_
   exact retR1 (.inr rfl) results28 (A_L (A_U rfl (A_b (by exact (rgErr_4 hF h26).symm))))
  refine A_C fun _ K8=>A_C fun _ K9=>?_
  refine B_N (⟨[(1,aEx (.pointer (some ⟨b1_1,0,none⟩))),(3,aGF r.F),(5,aInt (↑r.Points.length:Int)),(33,aBool (decide ((r.Kind≠0)/\(r.Kind≠1))))],[oBox b1_1 53 [aInt r.F.P,aInt r.F.M,aSl 1 false aInt r.F.mod,aInt r.Kind,aInt r.K,aInt r.D,aSl 1 false aInt r.Points]]⟩) ?_ ?_
  ·refine A_F <|A_A rfl (A_B runUnderlying53 rfl sizeOf3 (by decide) rfl) <|A_A rfl (A_K (k:=0) isAgg3 rfl rfl rfl) <|A_A rfl (B_B rfl rfl) <|emm rfl ?_
   refine B_I rfl rfl rfl rfl (fun hg37=>?_) (fun hg37=>?_)
   ·refine A_A rfl (A_B runUnderlying53 rfl sizeOf3 (by decide) rfl) <|A_M rfl rfl rfl rfl (d_T hg37) <|A_A rfl (A_K (k:=0) isAgg3 rfl rfl rfl) <|A_M rfl rfl rfl rfl (d_T hg37) <|A_A rfl (B_B rfl rfl) <|A_A rfl (A_q rfl (d_T hg37) rfl) <|emm rfl <|A_O ?_
    exact A_J ⟨rfl,rfl,rfl,A_a (dq_Q ((and_iff_right hg37).trans Iff.rfl)),trivial⟩ rfl
   refine A_E rfl rfl rfl rfl (d_F hg37) <|A_E rfl rfl rfl rfl (d_F hg37) <|A_A rfl (A_3 rfl (d_F hg37) rfl) <|emm rfl <|A_O ?_
   exact A_J ⟨rfl,rfl,rfl,A_a (dq_F rfl (fun h=>hg37 h.1)),trivial⟩ rfl
  refine A_1 K9 ?_
  refine A_H rfl (fun h33=>?_) (fun h33=>?_)
  ·refine esp K8 <|E_J rfl (d_T h33) <|esk rfl <|A_R ?_
   exact retR1 (.inr rfl) results28 (A_L (A_U rfl (A_b (by exact (G_C hF h26 (by unfold rgBad;omega)).symm))))
  refine A_C fun _ K11=>?_
  refine B_N (⟨[(1,aEx (.pointer (some ⟨b1_1,0,none⟩))),(3,aGF r.F),(33,aBool (decide ((r.D<1)\/(((↑r.Points.length:Int)-1)<r.D))))],[oBox b1_1 53 [aInt r.F.P,aInt r.F.M,aSl 1 false aInt r.F.mod,aInt r.Kind,aInt r.K,aInt r.D,aSl 1 false aInt r.Points]]⟩) ?_ ?_
  ·refine A_F <|A_A rfl (A_B runUnderlying53 rfl sizeOf3 (by decide) rfl) <|A_A rfl (A_K (k:=0) isAgg3 rfl rfl rfl) <|A_A rfl (A_m rfl rfl) <|emm rfl ?_
   refine A_6 rfl rfl rfl rfl (fun hg45=>?_) (fun hg45=>?_)
   ·refine A_A rfl (A_B runUnderlying53 rfl sizeOf3 (by decide) rfl) <|A_M rfl rfl rfl rfl (d_F hg45) <|A_A rfl (A_K (k:=0) isAgg3 rfl rfl rfl) <|A_M rfl rfl rfl rfl (d_F hg45) <|emm rfl <|A_M rfl rfl rfl rfl (d_F hg45) <|A_A rfl (B_L rfl rfl) <|A_M rfl rfl rfl rfl (d_F hg45) <|A_A rfl (C_M rfl rfl) <|A_A rfl (A_3 rfl (d_F hg45) rfl) <|emm rfl <|A_O ?_
    exact A_J ⟨rfl,rfl,A_a (dq_Q ((or_iff_right hg45).trans Iff.rfl)),trivial⟩ rfl
   refine A_E rfl rfl rfl rfl (d_T hg45) <|A_E rfl rfl rfl rfl (d_T hg45) <|A_E rfl rfl rfl rfl (d_T hg45) <|A_E rfl rfl rfl rfl (d_T hg45) <|A_A rfl (A_q rfl (d_T hg45) rfl) <|emm rfl <|A_O ?_
   exact A_J ⟨rfl,rfl,A_a (dq_T rfl (Or.inl hg45)),trivial⟩ rfl
  refine A_1 K11 ?_
  refine A_H rfl (fun h33=>?_) (fun h33=>?_)
  ·refine esp K8 <|E_J rfl (d_T h33) <|esk rfl <|A_R ?_
   exact retR1 (.inr rfl) results28 (A_L (A_U rfl (A_b (by exact (G_C hF h26 (by unfold rgBad;omega)).symm))))
  refine A_C fun _ K13=>?_
  refine B_N (⟨[(1,aEx (.pointer (some ⟨b1_1,0,none⟩))),(3,aGF r.F),(33,aBool (decide ((r.K<1)\/(r.D<r.K))))],[oBox b1_1 53 [aInt r.F.P,aInt r.F.M,aSl 1 false aInt r.F.mod,aInt r.Kind,aInt r.K,aInt r.D,aSl 1 false aInt r.Points]]⟩) ?_ ?_
  ·refine A_F <|A_A rfl (A_B runUnderlying53 rfl sizeOf3 (by decide) rfl) <|A_A rfl (A_K (k:=0) isAgg3 rfl rfl rfl) <|A_A rfl (A_m rfl rfl) <|emm rfl ?_
   refine A_6 rfl rfl rfl rfl (fun hg55=>?_) (fun hg55=>?_)
   ·refine A_A rfl (A_B runUnderlying53 rfl sizeOf3 (by decide) rfl) <|A_M rfl rfl rfl rfl (d_F hg55) <|A_A rfl (A_K (k:=0) isAgg3 rfl rfl rfl) <|A_M rfl rfl rfl rfl (d_F hg55) <|A_A rfl (A_B runUnderlying53 rfl sizeOf3 (by decide) rfl) <|A_M rfl rfl rfl rfl (d_F hg55) <|A_A rfl (A_K (k:=0) isAgg3 rfl rfl rfl) <|A_M rfl rfl rfl rfl (d_F hg55) <|A_A rfl (C_M rfl rfl) <|A_A rfl (A_3 rfl (d_F hg55) rfl) <|emm rfl <|A_O ?_
    exact A_J ⟨rfl,rfl,A_a (dq_Q ((or_iff_right hg55).trans Iff.rfl)),trivial⟩ rfl
   refine A_E rfl rfl rfl rfl (d_T hg55) <|A_E rfl rfl rfl rfl (d_T hg55) <|A_E rfl rfl rfl rfl (d_T hg55) <|A_E rfl rfl rfl rfl (d_T hg55) <|A_A rfl (A_q rfl (d_T hg55) rfl) <|emm rfl <|A_O ?_
   exact A_J ⟨rfl,rfl,A_a (dq_T rfl (Or.inl hg55)),trivial⟩ rfl
  refine A_1 K13 ?_
  refine A_H rfl (fun h33=>?_) (fun h33=>?_)
  ·refine esp K8 <|E_J rfl (d_T h33) <|esk rfl <|A_R ?_
   exact retR1 (.inr rfl) results28 (A_L (A_U rfl (A_b (by exact (G_C hF h26 (by unfold rgBad;omega)).symm))))
  refine B_N (⟨[(1,aEx (.pointer (some ⟨b1_1,0,none⟩))),(3,aGF r.F),(33,aBool (decide ((r.Kind=1)/\(r.D≠((2*r.K)-2)))))],[oBox b1_1 53 [aInt r.F.P,aInt r.F.M,aSl 1 false aInt r.F.mod,aInt r.Kind,aInt r.K,aInt r.D,aSl 1 false aInt r.Points]]⟩) ?_ ?_
  ·refine A_F <|A_A rfl (A_B runUnderlying53 rfl sizeOf3 (by decide) rfl) <|A_A rfl (A_K (k:=0) isAgg3 rfl rfl rfl) <|A_A rfl (B_W rfl rfl) <|emm rfl ?_
   refine B_I rfl rfl rfl rfl (fun hg65=>?_) (fun hg65=>?_)
   ·refine A_A rfl (A_B runUnderlying53 rfl sizeOf3 (by decide) rfl) <|A_M rfl rfl rfl rfl (d_T hg65) <|A_A rfl (A_K (k:=0) isAgg3 rfl rfl rfl) <|A_M rfl rfl rfl rfl (d_T hg65) <|A_A rfl (A_B runUnderlying53 rfl sizeOf3 (by decide) rfl) <|A_M rfl rfl rfl rfl (d_T hg65) <|A_A rfl (A_K (k:=0) isAgg3 rfl rfl rfl) <|A_M rfl rfl rfl rfl (d_T hg65) <|A_A rfl (B_2 rfl rfl) <|A_M rfl rfl rfl rfl (d_T hg65) <|A_A rfl (B_L rfl rfl) <|A_M rfl rfl rfl rfl (d_T hg65) <|A_A rfl (B_B rfl rfl) <|A_A rfl (A_q rfl (d_T hg65) rfl) <|emm rfl <|A_O ?_
    exact A_J ⟨rfl,rfl,A_a (dq_Q ((and_iff_right hg65).trans Iff.rfl)),trivial⟩ rfl
   refine A_E rfl rfl rfl rfl (d_F hg65) <|A_E rfl rfl rfl rfl (d_F hg65) <|A_E rfl rfl rfl rfl (d_F hg65) <|A_E rfl rfl rfl rfl (d_F hg65) <|A_E rfl rfl rfl rfl (d_F hg65) <|A_E rfl rfl rfl rfl (d_F hg65) <|A_A rfl (A_3 rfl (d_F hg65) rfl) <|emm rfl <|A_O ?_
   exact A_J ⟨rfl,rfl,A_a (dq_F rfl (fun h=>hg65 h.1)),trivial⟩ rfl
  refine A_1 K8 ?_
  refine A_H rfl (fun h33=>?_) (fun h33=>?_)
  ·refine esk rfl <|A_R ?_
   exact retR1 (.inr rfl) results28 (A_L (A_U rfl (A_b (by exact (G_C hF h26 (by unfold rgBad;omega)).symm))))
  refine esp K4 <|A_C fun _ K16=>esr rfl fun _ K17=>A_A rfl (A_B runUnderlying53 rfl sizeOf29 (by decide) rfl) <|A_A rfl (A_K (k:=0) isAgg29 rfl rfl rfl) <|A_A rfl (A_5 rfl runUnderlying29 rfl) <|emm rfl <|enk K17 <|A_I <|A_Y (fun (i:Int)=>(⟨[(1,aEx (.pointer (some ⟨b1_1,0,none⟩))),(3,aGF r.F),(75,aSl 1 false aInt r.Points),(76,aInt (↑r.Points.length:Int)),(77,aInt i)],[oBox b1_1 53 [aInt r.F.P,aInt r.F.M,aSl 1 false aInt r.F.mod,aInt r.Kind,aInt r.K,aInt r.D,aSl 1 false aInt r.Points]]⟩:St)) (fun (i:Int)=>(0<=i)/\(i<=r.Points.length)/\(¬outF r.F (r.Points.take i.toNat))) (fun (i:Int)=>(r.Points.length-i).toNat) 0 ⟨(by omega),(by omega),(by simp [outF])⟩ (A_J ⟨rfl,rfl,rfl,rfl,A_Q (A_k (show 0=(0:Int) by rfl)),trivial⟩ rfl) ?_
  rintro i ⟨h0,h1,hn⟩
  show Ent _ ⟨_,[_]⟩ _
  refine esr rfl fun _ K18=>A_A rfl (A_m rfl rfl) <|enk K18 <|A_C fun _ K19=>?_
  refine A_H rfl (fun h78=>?_) (fun h78=>?_)
  ·refine esp K19 <|A_C fun _ K20=>A_I <|esr rfl fun _ K21=>A_A rfl (A_W 0 sl29 rfl rfl) <|A_A rfl (A_P ti3 rfl) <|emm rfl <|enk K21 <|esr rfl fun _ K22=>A_A rfl (A_X (Is_ok r.F (ix 0 r.Points i)) rfl) <|A_A rfl (E_O rfl) <|enk K22 ?_
   refine A_H rfl (fun h84=>?_) (fun h84=>?_)
   ·refine esk rfl <|A_R ?_
    exact retR1 (.inr rfl) results28 (A_L (A_U rfl (A_b (by exact (rgErr_2 hF h26 (by unfold rgBad;omega) (outF_at h0 h78 h84)).symm))))
   refine esp K20 <|A_F <|A_A rfl (A_g rfl rfl) <|emm rfl <|A_O ?_
   refine A_T (s:=(i)) (i+1) ⟨(by omega),‹_›,(F_l h0 h78 hn (n_N h84))⟩ (by omega) (A_J ⟨rfl,rfl,rfl,rfl,rfl,trivial⟩ rfl)
  have hel:¬outF r.F r.Points:=by rw [t_L (by omega)] at hn;exact hn
  have hrb:¬rgBad r:=by unfold rgBad;omega
  have hkb:1<=r.K/\r.K<=64:=by omega
  refine A_Z <|A_1 K16 <|A_C fun _ K24=>esr rfl fun _ K25=>A_A rfl (A_B runUnderlying53 rfl sizeOf29 (by decide) rfl) <|A_A rfl (A_K (k:=0) isAgg29 rfl rfl rfl) <|A_A rfl (A_X (twice_ok r.Points) rfl) <|enk K25 ?_
  refine A_H rfl (fun h88=>?_) (fun h88=>?_)
  ·refine esk rfl <|A_R ?_
   exact retR1 (.inr rfl) results28 (A_L (A_U rfl (A_b (by exact (rgErr_18 hF h26 hrb hel h88).symm))))
  refine esp K24 <|A_C fun _ K27=>esr rfl fun _ K28=>A_A rfl (A_B runUnderlying53 rfl sizeOf3 (by decide) rfl) <|A_A rfl (A_K (k:=0) isAgg3 rfl rfl rfl) <|A_A rfl (B_W rfl rfl) <|enk K28 ?_
  refine A_H rfl (fun h91=>?_) (fun h91=>?_)
  ·refine esk rfl <|A_C fun _ K30=>esr rfl fun _ K31=>A_A rfl (A_B runUnderlying53 rfl sizeOf29 (by decide) rfl) <|A_A rfl (A_K (k:=0) isAgg29 rfl rfl rfl) <|A_A rfl (A_5 rfl runUnderlying29 rfl) <|emm rfl <|enk K31 <|A_I <|B_U 3 1 false aInt (fun _=>rfl) <|A_Y (fun (ss:Int×Option Nat×Nat)=>match ss with | (u,rr3,cc3)=>(⟨[(1,aEx (.pointer (some ⟨b1_1,0,none⟩))),(3,aGF r.F),(8,aEx (vec rr3 ((mapT (rgPow r) r.Points u).length) cc3)),(93,aSl 1 false aInt r.Points),(94,aInt (↑r.Points.length:Int)),(95,aInt u)],[oVec rr3 cc3 3 1 false aInt (mapT (rgPow r) r.Points u),oBox b1_1 53 [aInt r.F.P,aInt r.F.M,aSl 1 false aInt r.F.mod,aInt r.Kind,aInt r.K,aInt r.D,aSl 1 false aInt r.Points]]⟩:St)) (fun (ss:Int×Option Nat×Nat)=>match ss with | (u,rr3,cc3)=>(0<=u)/\(u<=r.Points.length)) (fun (ss:Int×Option Nat×Nat)=>match ss with | (u,rr3,cc3)=>(r.Points.length-u).toNat) (0,none,0) ⟨(by omega),(by omega)⟩ (A_J ⟨rfl,rfl,A_Q ((show aEx (vec none ([]:List _).length 0)=aEx (vec none ((mapT (rgPow r) r.Points (0:Int)).length) 0) from B_J (congrArg List.length (show mapT (rgPow r) r.Points (0:Int) = [] by rfl).symm))),rfl,rfl,A_Q (A_k (show 0=(0:Int) by rfl)),trivial⟩ (A_G (A_e (show mapT (rgPow r) r.Points (0:Int) = [] by rfl)) (rfl))) ?_
   rintro ⟨u,rr3,cc3⟩ ⟨m0,m1⟩
   show Ent _ ⟨_,[_,_]⟩ _
   have hlm:=D_n (rgPow r) r.Points m1
   refine esr rfl fun _ K32=>A_A rfl (A_m rfl rfl) <|enk K32 <|A_C fun _ K33=>?_
   refine A_H rfl (fun h96=>?_) (fun h96=>?_)
   ·refine esp K33 <|A_C fun _ K34=>A_I <|esr rfl fun _ K35=>A_A rfl (A_W 0 sl29 rfl rfl) <|A_A rfl (A_P ti3 rfl) <|emm rfl <|enk K35 <|esr rfl fun _ K36=>A_A rfl (A_B runUnderlying53 rfl sizeOf3 (by decide) rfl) <|A_A rfl (A_K (k:=1) isAgg3 rfl rfl rfl) <|A_A rfl (B_L rfl rfl) <|A_A rfl (A_X (Pow_ok r.F (ix 0 r.Points u) (r.K-1) ‹_›) rfl) <|emm rfl <|A_A rfl (A_V rfl rfl) <|A_A rfl (A_V rfl rfl) <|emm rfl <|enk K36 <|A_F <|emm rfl <|B_Q (k:=0) (enc:=aInt) (y:=powF r.F (ix 0 r.Points u) (r.K-1)) rfl rfl vt29 rfl rfl rfl rfl ((A_n (A_N _))) (by omega) (by omega) (by decide) fun b111_4 c111_4=>emm rfl <|enk K34 <|A_F <|A_A rfl (A_g rfl rfl) <|emm rfl <|A_O ?_
    refine A_T (s:=(u,rr3,cc3)) (u+1,(some b111_4),c111_4) ⟨(by omega),‹_›⟩ (by dsimp only;omega) (A_J ⟨rfl,rfl,A_Q (B_J (congrArg List.length (show mapT (rgPow r) r.Points (u+1)=(mapT (rgPow r) r.Points u)++[powF r.F (ix 0 r.Points u) (r.K-1)] by exact C_q 0 (rgPow r) r.Points m0 h96).symm)),rfl,rfl,rfl,trivial⟩ (A_G (A_e (show mapT (rgPow r) r.Points (u+1)=(mapT (rgPow r) r.Points u)++[powF r.F (ix 0 r.Points u) (r.K-1)] by exact C_q 0 (rgPow r) r.Points m0 h96)) (rfl)))
   have hma:=F_t (rgPow r) r.Points (i:=u) (by omega)
   refine A_Z <|A_1 K30 <|esr rfl fun _ K37=>A_A rfl (G_p [0] (by exact D_U) (twice_ok (mapT (rgPow r) r.Points u)) ⟨A_z rfl (B_g (k:=0) (B_s rfl) rfl rfl),trivial⟩) <|enk K37 ?_
   refine A_H rfl (fun h114=>?_) (fun h114=>?_)
   ·rw [hma] at h114
    refine esk rfl <|A_R ?_
    exact retR1 (.inr rfl) results28 (A_L (A_U rfl (A_b (by exact (rgErr_5 hF h26 hrb hel (n_N h88) h91 h114).symm))))
   rw [hma] at h114
   refine esp K27 <|esk rfl <|A_R ?_
   exact retR1 (.inr rfl) results28 (A_L (A_U rfl (A_b (by exact (C_y.2 ⟨hF,by omega,hrb,hel,n_N h88,fun hk=>n_N h114⟩).symm))))
  refine esp K27 <|esk rfl <|A_R ?_
  exact retR1 (.inr rfl) results28 (A_L (A_U rfl (A_b (by exact (C_y.2 ⟨hF,by omega,hrb,hel,n_N h88,fun hk=>absurd hk h91⟩).symm))))
 refine A_A rfl (A_X (New_no r.F hF) rfl) <|emm rfl <|A_A rfl (A_V rfl rfl) <|A_A rfl (A_V rfl rfl) <|emm rfl <|enk K2 <|esr rfl fun _ K41=>A_A rfl (A_B runUnderlying53 rfl sizeOf29 (by decide) rfl) <|A_A rfl (A_K (k:=0) isAgg29 rfl rfl rfl) <|A_A rfl (A_5 rfl runUnderlying29 rfl) <|emm rfl <|enk K41 <|A_C fun _ K42=>A_I <|esr rfl fun _ K43=>A_A rfl (B_B rfl rfl) <|emm rfl <|enk K43 <|E_J rfl (by decide) <|esk rfl <|A_R ?_
 exact retR1 (.inr rfl) results28 (A_L (A_U rfl (A_b (by exact (rgErr_1 hF).symm))))

theorem G_m (r:Rgn) (hR:RgOk r):Ctr Try.prog 29 [aRgn r] (aTup [aInt (rgB r),aInt (rgA r)]):=by
 have hrb:=hR.rng
 unfold rgBad at hrb
 have hln:=hR.len
 have hbd:1<=r.K/\r.K<=r.D/\r.D<=63:=by omega
 have hp1:=B_5 (show 0<=r.K by omega) (by omega) (show 0<=r.D by omega) (by omega)
 have hp2:=B_5 (show 0<=r.K by omega) (by omega) (show 0<=r.K-1 by omega) (by omega)
 have hdv:0<=r.K*(r.K-1)/2/\r.K*(r.K-1)/2<=65536:=⟨Int.ediv_nonneg hp2.1 (by omega),by omega⟩
 refine B_E Try.call29 func29 rfl rfl ?_
 intro w O
 refine A_l 0 2 rfl rfl fun hlen0_2=>A_l 0 6 rfl rfl fun hlen0_6=>esr rfl fun _ K1=>A_w rfl rfl (AllOne.mem ⟨(A_N _),(A_N _),A_j,(A_N _),(A_N _),(A_N _),A_j,trivial⟩) fun b1_1=>emm rfl <|enk K1 <|A_C fun _ K2=>esr rfl fun _ K3=>A_A rfl (A_B runUnderlying53 rfl sizeOf3 (by decide) rfl) <|A_A rfl (A_K (k:=0) isAgg3 rfl rfl rfl) <|A_A rfl (B_W rfl rfl) <|enk K3 ?_
 refine A_H rfl (fun h6=>?_) (fun h6=>?_)
 ·refine A_C fun _ K4=>A_u 17 mixed (by kernel_rfl) (by kernel_rfl) (by kernel_rfl) <|dw_o rfl (A_B runUnderlying53 rfl sizeOf3 (by decide) rfl) <|dw_o rfl (A_K (k:=0) isAgg3 rfl rfl rfl) <|dw_o rfl (A_B runUnderlying53 rfl sizeOf3 (by decide) rfl) <|dw_o rfl (A_K (k:=0) isAgg3 rfl rfl rfl) <|dw_o rfl (B_2 rfl rfl) <|dw_o rfl (A_B runUnderlying53 rfl sizeOf3 (by decide) rfl) <|dw_o rfl (A_K (k:=0) isAgg3 rfl rfl rfl) <|dw_o rfl (A_B runUnderlying53 rfl sizeOf3 (by decide) rfl) <|dw_o rfl (A_K (k:=0) isAgg3 rfl rfl rfl) <|dw_o rfl (B_L rfl rfl) <|dw_o rfl (B_2 rfl rfl) <|dw_o rfl (E_i rfl rfl) <|dw_o rfl (B_L rfl rfl) <|dw_o rfl (A_B runUnderlying53 rfl sizeOf3 (by decide) rfl) <|dw_o rfl (A_K (k:=0) isAgg3 rfl rfl rfl) <|dw_o rfl (B_H rfl) <|dw_o rfl (B_H rfl) <|A_9 <|enk K4 <|A_R ?_
  exact retR2 (.inr rfl) results29 (A_L (A_U rfl (A_b (by unfold rgB;rw [i_P h6])))) (A_L (A_U rfl (A_b (by unfold rgA;rw [i_P h6]))))
 refine esp K2 <|A_C fun _ K5=>A_u 11 mixed (by kernel_rfl) (by kernel_rfl) (by kernel_rfl) <|dw_o rfl (A_B runUnderlying53 rfl sizeOf3 (by decide) rfl) <|dw_o rfl (A_K (k:=0) isAgg3 rfl rfl rfl) <|dw_o rfl (A_B runUnderlying53 rfl sizeOf3 (by decide) rfl) <|dw_o rfl (A_K (k:=0) isAgg3 rfl rfl rfl) <|dw_o rfl (B_L rfl rfl) <|dw_o rfl (B_2 rfl rfl) <|dw_o rfl (A_B runUnderlying53 rfl sizeOf3 (by decide) rfl) <|dw_o rfl (A_K (k:=0) isAgg3 rfl rfl rfl) <|dw_o rfl (B_L rfl rfl) <|dw_o rfl (B_H rfl) <|dw_o rfl (B_H rfl) <|A_9 <|enk K5 <|A_R ?_
 exact retR2 (.inr rfl) results29 (A_L (A_U rfl (A_b (by unfold rgB;rw [i_N h6])))) (A_L (A_U rfl (A_b (by unfold rgA;rw [i_N h6]))))

theorem G_l (r:Rgn) (hR:RgOk r):Ctr Try.prog 52 [aRgn r] (aTup [aInt (rgB r),aInt (rgA r)]):=by
 have hrb:=hR.rng
 unfold rgBad at hrb
 have hln:=hR.len
 have hbd:1<=r.K/\r.K<=r.D/\r.D<=63:=by omega
 have hp1:=B_5 (show 0<=r.K by omega) (by omega) (show 0<=r.D by omega) (by omega)
 have hp2:=B_5 (show 0<=r.K by omega) (by omega) (show 0<=r.K-1 by omega) (by omega)
 have hdv:0<=r.K*(r.K-1)/2/\r.K*(r.K-1)/2<=65536:=⟨Int.ediv_nonneg hp2.1 (by omega),by omega⟩
 refine B_E Try.call52 func52 rfl rfl ?_
 intro w O
 refine A_l 0 2 rfl rfl fun hlen0_2=>A_l 0 6 rfl rfl fun hlen0_6=>esr rfl fun _ K1=>A_w rfl rfl (AllOne.mem ⟨(A_N _),(A_N _),A_j,(A_N _),(A_N _),(A_N _),A_j,trivial⟩) fun b1_1=>emm rfl <|enk K1 <|A_C fun _ K2=>esr rfl fun _ K3=>A_A rfl (A_B runUnderlying53 rfl sizeOf3 (by decide) rfl) <|A_A rfl (A_K (k:=0) isAgg3 rfl rfl rfl) <|A_A rfl (B_W rfl rfl) <|enk K3 ?_
 refine A_H rfl (fun h6=>?_) (fun h6=>?_)
 ·refine A_C fun _ K4=>A_u 11 mixed (by kernel_rfl) (by kernel_rfl) (by kernel_rfl) <|dw_o rfl (A_B runUnderlying53 rfl sizeOf3 (by decide) rfl) <|dw_o rfl (A_K (k:=0) isAgg3 rfl rfl rfl) <|dw_o rfl (A_B runUnderlying53 rfl sizeOf3 (by decide) rfl) <|dw_o rfl (A_K (k:=0) isAgg3 rfl rfl rfl) <|dw_o rfl (B_L rfl rfl) <|dw_o rfl (B_2 rfl rfl) <|dw_o rfl (A_B runUnderlying53 rfl sizeOf3 (by decide) rfl) <|dw_o rfl (A_K (k:=0) isAgg3 rfl rfl rfl) <|dw_o rfl (B_L rfl rfl) <|dw_o rfl (B_H rfl) <|dw_o rfl (B_H rfl) <|A_9 <|enk K4 <|A_R ?_
  exact retR2 (.inr rfl) results52 (A_L (A_U rfl (A_b (by unfold rgB;rw [i_N (by omega)])))) (A_L (A_U rfl (A_b (by unfold rgA;rw [i_N (by omega)]))))
 refine esp K2 <|A_C fun _ K5=>A_u 17 mixed (by kernel_rfl) (by kernel_rfl) (by kernel_rfl) <|dw_o rfl (A_B runUnderlying53 rfl sizeOf3 (by decide) rfl) <|dw_o rfl (A_K (k:=0) isAgg3 rfl rfl rfl) <|dw_o rfl (A_B runUnderlying53 rfl sizeOf3 (by decide) rfl) <|dw_o rfl (A_K (k:=0) isAgg3 rfl rfl rfl) <|dw_o rfl (B_2 rfl rfl) <|dw_o rfl (A_B runUnderlying53 rfl sizeOf3 (by decide) rfl) <|dw_o rfl (A_K (k:=0) isAgg3 rfl rfl rfl) <|dw_o rfl (A_B runUnderlying53 rfl sizeOf3 (by decide) rfl) <|dw_o rfl (A_K (k:=0) isAgg3 rfl rfl rfl) <|dw_o rfl (B_L rfl rfl) <|dw_o rfl (B_2 rfl rfl) <|dw_o rfl (E_i rfl rfl) <|dw_o rfl (B_L rfl rfl) <|dw_o rfl (A_B runUnderlying53 rfl sizeOf3 (by decide) rfl) <|dw_o rfl (A_K (k:=0) isAgg3 rfl rfl rfl) <|dw_o rfl (B_H rfl) <|dw_o rfl (B_H rfl) <|A_9 <|enk K5 <|A_R ?_
 exact retR2 (.inr rfl) results52 (A_L (A_U rfl (A_b (by unfold rgB;rw [i_P (by omega)])))) (A_L (A_U rfl (A_b (by unfold rgA;rw [i_P (by omega)]))))

end Go.Proofs.Ytaipghchkamajaa

