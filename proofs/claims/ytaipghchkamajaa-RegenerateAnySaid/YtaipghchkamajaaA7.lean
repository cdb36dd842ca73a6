/-
  Walks of functions of the program and the reference.
-/
import Derived.Test.YtaipghchkamajaaA2
import Derived.Test.YtaipghchkamajaaA6
open Go Go.Cw
namespace Go.Proofs.Ytaipghchkamajaa
open Try
set_option maxRecDepth 100000
set_option linter.unusedVariables false
set_option linter.unusedSimpArgs false

abbrev aRgn (r:Rgn):AV:=aAgg [aInt r.F.P,aInt r.F.M,aInts r.F.mod,aInt r.Kind,aInt r.K,aInt r.D,aInts r.Points]

theorem rEntries_ok (f:Fld) (l:List Int)  : Ctr Try.prog 54 [aFld f,aSl 1 false aInt l] (aInt (entErr f l)):=by
 refine ctr_of Try.call54 func54 rfl rfl ?_
 intro w O
 refine A_o 0 2 rfl rfl (fun hlen0_2=>?_)
 refine ent_len 1 rfl (fun hlen1=>?_)
 refine esr rfl fun _ K1=>?_
 refine A_y rfl rfl (AllOne.mem ⟨(A_N _),(A_N _),A_j,trivial⟩) (fun b2_1=>?_)
 refine emm rfl ?_
 refine enk K1 ?_
 refine A_C fun _ K2=>?_
 refine esk rfl ?_
 refine A_K ?_
 refine A_d (fun (i:Int)=>(⟨[(1,aSl 1 false aInt l),(2,aEx (.pointer (some ⟨b2_1,0,none⟩))),(5,aInt i)],[oBox b2_1 51 [aInt f.P,aInt f.M,aSl 1 false aInt f.mod]]⟩:St)) (fun (i:Int)=>(0<=i)/\(i<=l.length)/\(¬outF f (l.take i.toNat))) (fun (i:Int)=>(l.length-i).toNat) 0 ⟨(by omega),(by omega),(by simp [outF])⟩ (A_J ⟨rfl,rfl,A_V (A_p (show 0=(0:Int) by rfl)),trivial⟩ rfl) ?_
 rintro i ⟨h0,h1,hn⟩
 show Ent _ ⟨_,[_]⟩ _
 refine A_C fun _ K4=>?_
 refine esr rfl fun _ K5=>?_
 refine A_A rfl (ok_len rfl runUnderlying29 rfl) ?_
 refine A_A rfl (A_r rfl rfl) ?_
 refine enk K5 ?_
 refine A_G rfl (fun h9=>?_) (fun h9=>?_)
 ·refine esp K4 ?_
  refine A_C fun _ K6=>?_
  refine A_K ?_
  refine A_C fun _ K7=>?_
  refine A_w 7 mixed (by kernel_rfl) (by kernel_rfl) (by kernel_rfl) ?_
  refine dw_o rfl (A_R (k:=0) ti51 rfl rfl rfl) ?_
  refine dw_o rfl (A_D rfl) ?_
  refine dw_o rfl (A_D rfl) ?_
  refine dw_o rfl (A_a 0 sl29 rfl rfl (by omega) (by omega)) ?_
  refine dw_o rfl (A_P ti3 rfl) ?_
  refine dw_o rfl (A_W (rIs_ok f (ix 0 l i)) rfl) ?_
  refine dw_o rfl (ok_notD rfl) ?_
  refine dw_nil ?_
  refine enk K7 ?_
  refine A_G rfl (fun h18=>?_) (fun h18=>?_)
  ·refine esk rfl ?_
   refine A_Q ?_
   exact retR1 (.inr rfl) results54 (A_L (A_S rfl (A_Z (by unfold entErr;rw [if_pos (outF_at h0 h9 h18)]))))
  refine esp K6 ?_
  refine A_H ?_
  refine emm rfl ?_
  refine A_A rfl (A_n rfl rfl (by omega) (by omega)) ?_
  refine emm rfl ?_
  refine A_O ?_
  refine A_U (s:=(i)) (i+1) ⟨(by omega),‹_›,(outF_succ h0 h9 hn (Classical.not_not.1 h18))⟩ (by omega) (A_J ⟨rfl,rfl,rfl,trivial⟩ rfl)
 refine A_e ?_
 refine A_0 K2 ?_
 refine esk rfl ?_
 refine A_Q ?_
 exact retR1 (.inr rfl) results54 (A_L (A_S rfl (A_Z (by unfold entErr;rw [if_neg (by rw [List.take_of_length_le (by omega)] at hn;exact hn)]))))

theorem rpower_ok (f:Fld) (x n:Int) (hS:Shape f) (hn0 : -9223372036854775808<=n) (hn1:n<=9223372036854775807):Ctr Try.prog 55 [aFld f,aInt x,aInt n] (aInt (powF f x n)):=by
 refine ctr_of Try.call55 func55 rfl rfl ?_
 intro w O
 refine A_o 0 2 rfl rfl (fun hlen0_2=>?_)
 refine esr rfl fun _ K1=>?_
 refine A_y rfl rfl (AllOne.mem ⟨(A_N _),(A_N _),A_j,trivial⟩) (fun b3_1=>?_)
 refine emm rfl ?_
 refine enk K1 ?_
 refine esr rfl fun _ K2=>?_
 refine A_A rfl (A_R (k:=0) ti51 rfl rfl rfl) ?_
 refine emm rfl ?_
 refine A_A rfl (A_W (rPow_ok f x n ‹_› ‹_› ‹_›) rfl) ?_
 refine emm rfl ?_
 refine A_A rfl (A_T rfl rfl) ?_
 refine A_A rfl (A_T rfl rfl) ?_
 refine emm rfl ?_
 refine enk K2 ?_
 refine esk rfl ?_
 refine A_Q ?_
 exact retR1 (.inr rfl) results55 (A_L (A_S rfl (A_Z rfl)))

theorem rRgCheck_ok (r:Rgn) (hk1 : -9223372036854775808<=r.K) (hk2:r.K<=9223372036854775807) (hd1 : -9223372036854775808<=r.D) (hd2:r.D<=9223372036854775807):Ctr Try.prog 27 [aRgn r] (aInt (rgErr r)):=by
 refine ctr_of Try.call27 func27 rfl rfl ?_
 intro w O
 refine A_o 0 2 rfl rfl (fun hlen0_2=>?_)
 refine A_o 0 6 rfl rfl (fun hlen0_6=>?_)
 refine esr rfl fun _ K1=>?_
 refine A_y rfl rfl (AllOne.mem ⟨(A_N _),(A_N _),A_j,(A_N _),(A_N _),(A_N _),A_j,trivial⟩) (fun b1_1=>?_)
 refine emm rfl ?_
 refine enk K1 ?_
 refine A_C fun _ K2=>?_
 refine esr rfl fun _ K3=>?_
 refine A_A rfl (A_B runUnderlying53 rfl sizeOf51 (by decide) rfl) ?_
 refine A_A rfl (A_R (k:=0) ti51 rfl rfl rfl) ?_
 refine A_A rfl (A_W (rCheck_ok r.F) rfl) ?_
 refine A_A rfl (ok_neq rfl rfl) ?_
 refine enk K3 ?_
 refine A_G rfl (fun h11=>?_) (fun h11=>?_)
 ·refine esk rfl ?_
  refine A_Q ?_
  exact retR1 (.inr rfl) results27 (A_L (A_S rfl (A_Z (by exact (rgErr_1 (fun h=>h11 (fErr_ok h))).symm))))
 have hF:FOk r.F:=fErr_zero.1 (Classical.not_not.1 h11)
 have hS:=hF.1
 refine esp K2 ?_
 refine esr rfl fun _ K5=>?_
 refine A_A rfl (A_B runUnderlying53 rfl sizeOf29 (by decide) rfl) ?_
 refine A_A rfl (A_I (k:=0) isAgg29 rfl rfl rfl) ?_
 refine A_A rfl (ok_len rfl runUnderlying29 rfl) ?_
 refine emm rfl ?_
 refine enk K5 ?_
 refine A_C fun _ K6=>?_
 refine A_C fun _ K7=>?_
 refine ent_cut (⟨[(1,aEx (.pointer (some ⟨b1_1,0,none⟩))),(3,aInt (↑r.Points.length:Int)),(20,aBool (decide (((↑r.Points.length:Int)<2)\/(64<(↑r.Points.length:Int)))))],[oBox b1_1 53 [aInt r.F.P,aInt r.F.M,aSl 1 false aInt r.F.mod,aInt r.Kind,aInt r.K,aInt r.D,aSl 1 false aInt r.Points]]⟩) ?_ ?_
 ·refine A_H ?_
  refine emm rfl ?_
  refine A_A rfl (A_r rfl rfl) ?_
  refine emm rfl ?_
  refine A_2 rfl rfl rfl rfl (fun hg17=>?_) (fun hg17=>?_)
  ·refine emm rfl ?_
   refine A_M rfl rfl rfl rfl (decide_eq_false hg17) ?_
   refine A_A rfl (ok_gtr rfl rfl) ?_
   refine A_A rfl (A_1 rfl (decide_eq_false hg17) rfl) ?_
   refine A_O ?_
   exact A_J ⟨rfl,rfl,A_X (dq_Q ((or_iff_right hg17).trans Iff.rfl)),trivial⟩ rfl
  refine A_E rfl rfl rfl rfl (decide_eq_true hg17) ?_
  refine A_A rfl (A_m rfl (decide_eq_true hg17) rfl) ?_
  refine A_O ?_
  exact A_J ⟨rfl,rfl,A_X (dq_T rfl (Or.inl hg17)),trivial⟩ rfl
 refine A_0 K7 ?_
 refine A_G rfl (fun h20=>?_) (fun h20=>?_)
 ·refine esk rfl ?_
  refine A_Q ?_
  exact retR1 (.inr rfl) results27 (A_L (A_S rfl (A_Z (by exact (rgErr_4 hF h20).symm))))
 refine esp K6 ?_
 refine A_C fun _ K9=>?_
 refine A_C fun _ K10=>?_
 refine ent_cut (⟨[(1,aEx (.pointer (some ⟨b1_1,0,none⟩))),(3,aInt (↑r.Points.length:Int)),(52,aBool (decide ((((((r.Kind≠0)/\(r.Kind≠1))\/(r.D<1))\/(((↑r.Points.length:Int)-1)<r.D))\/(r.K<1))\/(r.D<r.K))))],[oBox b1_1 53 [aInt r.F.P,aInt r.F.M,aSl 1 false aInt r.F.mod,aInt r.Kind,aInt r.K,aInt r.D,aSl 1 false aInt r.Points]]⟩) ?_ ?_
 ·refine A_H ?_
  refine A_A rfl (A_B runUnderlying53 rfl sizeOf3 (by decide) rfl) ?_
  refine A_A rfl (A_I (k:=0) isAgg3 rfl rfl rfl) ?_
  refine A_A rfl (ok_neq rfl rfl) ?_
  refine emm rfl ?_
  refine ent_guardXDt rfl rfl rfl rfl (fun hg24=>?_) (fun hg24=>?_)
  ·refine A_A rfl (A_B runUnderlying53 rfl sizeOf3 (by decide) rfl) ?_
   refine A_M rfl rfl rfl rfl (decide_eq_true hg24) ?_
   refine A_A rfl (A_I (k:=0) isAgg3 rfl rfl rfl) ?_
   refine A_M rfl rfl rfl rfl (decide_eq_true hg24) ?_
   refine A_A rfl (ok_neq rfl rfl) ?_
   refine A_A rfl (A_m rfl (decide_eq_true hg24) rfl) ?_
   refine emm rfl ?_
   refine A_2 rfl rfl rfl rfl (fun hg29=>?_) (fun hg29=>?_)
   ·refine A_A rfl (A_B runUnderlying53 rfl sizeOf3 (by decide) rfl) ?_
    refine A_M rfl rfl rfl rfl (decide_eq_false hg29) ?_
    refine A_A rfl (A_I (k:=0) isAgg3 rfl rfl rfl) ?_
    refine A_M rfl rfl rfl rfl (decide_eq_false hg29) ?_
    refine A_A rfl (A_r rfl rfl) ?_
    refine A_A rfl (A_1 rfl (decide_eq_false hg29) rfl) ?_
    refine emm rfl ?_
    refine A_2 rfl rfl rfl rfl (fun hg34=>?_) (fun hg34=>?_)
    ·refine A_A rfl (A_B runUnderlying53 rfl sizeOf3 (by decide) rfl) ?_
     refine A_M rfl rfl rfl rfl (decide_eq_false hg34) ?_
     refine A_A rfl (A_I (k:=0) isAgg3 rfl rfl rfl) ?_
     refine A_M rfl rfl rfl rfl (decide_eq_false hg34) ?_
     refine emm rfl ?_
     refine A_M rfl rfl rfl rfl (decide_eq_false hg34) ?_
     refine A_A rfl (ok_sub rfl rfl (by omega) (by omega)) ?_
     refine A_M rfl rfl rfl rfl (decide_eq_false hg34) ?_
     refine A_A rfl (ok_gtr rfl rfl) ?_
     refine A_A rfl (A_1 rfl (decide_eq_false hg34) rfl) ?_
     refine emm rfl ?_
     refine A_2 rfl rfl rfl rfl (fun hg41=>?_) (fun hg41=>?_)
     ·refine A_A rfl (A_B runUnderlying53 rfl sizeOf3 (by decide) rfl) ?_
      refine A_M rfl rfl rfl rfl (decide_eq_false hg41) ?_
      refine A_A rfl (A_I (k:=0) isAgg3 rfl rfl rfl) ?_
      refine A_M rfl rfl rfl rfl (decide_eq_false hg41) ?_
      refine A_A rfl (A_r rfl rfl) ?_
      refine A_A rfl (A_1 rfl (decide_eq_false hg41) rfl) ?_
      refine emm rfl ?_
      refine A_2 rfl rfl rfl rfl (fun hg46=>?_) (fun hg46=>?_)
      ·refine A_A rfl (A_B runUnderlying53 rfl sizeOf3 (by decide) rfl) ?_
       refine A_M rfl rfl rfl rfl (decide_eq_false hg46) ?_
       refine A_A rfl (A_I (k:=0) isAgg3 rfl rfl rfl) ?_
       refine A_M rfl rfl rfl rfl (decide_eq_false hg46) ?_
       refine A_A rfl (A_B runUnderlying53 rfl sizeOf3 (by decide) rfl) ?_
       refine A_M rfl rfl rfl rfl (decide_eq_false hg46) ?_
       refine A_A rfl (A_I (k:=0) isAgg3 rfl rfl rfl) ?_
       refine A_M rfl rfl rfl rfl (decide_eq_false hg46) ?_
       refine A_A rfl (ok_gtr rfl rfl) ?_
       refine A_A rfl (A_1 rfl (decide_eq_false hg46) rfl) ?_
       refine A_O ?_
       exact A_J ⟨rfl,rfl,A_X (dq_Q ((or_iff_right (fun h=>h.elim (fun h=>h.elim (fun h=>h.elim (fun h=>hg29 h.2) hg34) hg41) hg46)).trans Iff.rfl)),trivial⟩ rfl
      refine A_E rfl rfl rfl rfl (decide_eq_true hg46) ?_
      refine A_E rfl rfl rfl rfl (decide_eq_true hg46) ?_
      refine A_E rfl rfl rfl rfl (decide_eq_true hg46) ?_
      refine A_E rfl rfl rfl rfl (decide_eq_true hg46) ?_
      refine A_A rfl (A_m rfl (decide_eq_true hg46) rfl) ?_
      refine A_O ?_
      exact A_J ⟨rfl,rfl,A_X (dq_T rfl (Or.inl (Or.inr hg46))),trivial⟩ rfl
     refine A_E rfl rfl rfl rfl (decide_eq_true hg41) ?_
     refine A_E rfl rfl rfl rfl (decide_eq_true hg41) ?_
     refine A_A rfl (A_m rfl (decide_eq_true hg41) rfl) ?_
     refine emm rfl ?_
     refine A_E rfl rfl rfl rfl rfl ?_
     refine A_E rfl rfl rfl rfl rfl ?_
     refine A_E rfl rfl rfl rfl rfl ?_
     refine A_E rfl rfl rfl rfl rfl ?_
     refine A_E rfl rfl rfl rfl rfl ?_
     refine A_A rfl (A_m rfl rfl rfl) ?_
     refine A_O ?_
     exact A_J ⟨rfl,rfl,A_X (dq_T rfl (Or.inl (Or.inl (Or.inr hg41)))),trivial⟩ rfl
    refine A_E rfl rfl rfl rfl (decide_eq_true hg34) ?_
    refine A_E rfl rfl rfl rfl (decide_eq_true hg34) ?_
    refine A_E rfl rfl rfl rfl (decide_eq_true hg34) ?_
    refine A_E rfl rfl rfl rfl (decide_eq_true hg34) ?_
    refine A_A rfl (A_m rfl (decide_eq_true hg34) rfl) ?_
    refine emm rfl ?_
    refine A_E rfl rfl rfl rfl rfl ?_
    refine A_E rfl rfl rfl rfl rfl ?_
    refine A_E rfl rfl rfl rfl rfl ?_
    refine A_A rfl (A_m rfl rfl rfl) ?_
    refine emm rfl ?_
    refine A_E rfl rfl rfl rfl rfl ?_
    refine A_E rfl rfl rfl rfl rfl ?_
    refine A_E rfl rfl rfl rfl rfl ?_
    refine A_E rfl rfl rfl rfl rfl ?_
    refine A_E rfl rfl rfl rfl rfl ?_
    refine A_A rfl (A_m rfl rfl rfl) ?_
    refine A_O ?_
    exact A_J ⟨rfl,rfl,A_X (dq_T rfl (Or.inl (Or.inl (Or.inl (Or.inr hg34))))),trivial⟩ rfl
   refine A_E rfl rfl rfl rfl (decide_eq_true hg29) ?_
   refine A_E rfl rfl rfl rfl (decide_eq_true hg29) ?_
   refine A_A rfl (A_m rfl (decide_eq_true hg29) rfl) ?_
   refine emm rfl ?_
   refine A_E rfl rfl rfl rfl rfl ?_
   refine A_E rfl rfl rfl rfl rfl ?_
   refine A_E rfl rfl rfl rfl rfl ?_
   refine A_E rfl rfl rfl rfl rfl ?_
   refine A_E rfl rfl rfl rfl rfl ?_
   refine A_A rfl (A_m rfl rfl rfl) ?_
   refine emm rfl ?_
   refine A_E rfl rfl rfl rfl rfl ?_
   refine A_E rfl rfl rfl rfl rfl ?_
   refine A_E rfl rfl rfl rfl rfl ?_
   refine A_A rfl (A_m rfl rfl rfl) ?_
   refine emm rfl ?_
   refine A_E rfl rfl rfl rfl rfl ?_
   refine A_E rfl rfl rfl rfl rfl ?_
   refine A_E rfl rfl rfl rfl rfl ?_
   refine A_E rfl rfl rfl rfl rfl ?_
   refine A_E rfl rfl rfl rfl rfl ?_
   refine A_A rfl (A_m rfl rfl rfl) ?_
   refine A_O ?_
   exact A_J ⟨rfl,rfl,A_X (dq_T rfl (Or.inl (Or.inl (Or.inl (Or.inl ⟨hg24,hg29⟩))))),trivial⟩ rfl
  refine A_E rfl rfl rfl rfl (decide_eq_false hg24) ?_
  refine A_E rfl rfl rfl rfl (decide_eq_false hg24) ?_
  refine A_A rfl (A_1 rfl (decide_eq_false hg24) rfl) ?_
  refine emm rfl ?_
  refine A_M rfl rfl rfl rfl rfl ?_
  refine A_A rfl (A_B runUnderlying53 rfl sizeOf3 (by decide) rfl) ?_
  refine A_M rfl rfl rfl rfl rfl ?_
  refine A_A rfl (A_I (k:=0) isAgg3 rfl rfl rfl) ?_
  refine A_M rfl rfl rfl rfl rfl ?_
  refine A_A rfl (A_r rfl rfl) ?_
  refine A_A rfl (A_1 rfl rfl rfl) ?_
  refine emm rfl ?_
  refine A_2 rfl rfl rfl rfl (fun hg34=>?_) (fun hg34=>?_)
  ·refine A_A rfl (A_B runUnderlying53 rfl sizeOf3 (by decide) rfl) ?_
   refine A_M rfl rfl rfl rfl (decide_eq_false hg34) ?_
   refine A_A rfl (A_I (k:=0) isAgg3 rfl rfl rfl) ?_
   refine A_M rfl rfl rfl rfl (decide_eq_false hg34) ?_
   refine emm rfl ?_
   refine A_M rfl rfl rfl rfl (decide_eq_false hg34) ?_
   refine A_A rfl (ok_sub rfl rfl (by omega) (by omega)) ?_
   refine A_M rfl rfl rfl rfl (decide_eq_false hg34) ?_
   refine A_A rfl (ok_gtr rfl rfl) ?_
   refine A_A rfl (A_1 rfl (decide_eq_false hg34) rfl) ?_
   refine emm rfl ?_
   refine A_2 rfl rfl rfl rfl (fun hg41=>?_) (fun hg41=>?_)
   ·refine A_A rfl (A_B runUnderlying53 rfl sizeOf3 (by decide) rfl) ?_
    refine A_M rfl rfl rfl rfl (decide_eq_false hg41) ?_
    refine A_A rfl (A_I (k:=0) isAgg3 rfl rfl rfl) ?_
    refine A_M rfl rfl rfl rfl (decide_eq_false hg41) ?_
    refine A_A rfl (A_r rfl rfl) ?_
    refine A_A rfl (A_1 rfl (decide_eq_false hg41) rfl) ?_
    refine emm rfl ?_
    refine A_2 rfl rfl rfl rfl (fun hg46=>?_) (fun hg46=>?_)
    ·refine A_A rfl (A_B runUnderlying53 rfl sizeOf3 (by decide) rfl) ?_
     refine A_M rfl rfl rfl rfl (decide_eq_false hg46) ?_
     refine A_A rfl (A_I (k:=0) isAgg3 rfl rfl rfl) ?_
     refine A_M rfl rfl rfl rfl (decide_eq_false hg46) ?_
     refine A_A rfl (A_B runUnderlying53 rfl sizeOf3 (by decide) rfl) ?_
     refine A_M rfl rfl rfl rfl (decide_eq_false hg46) ?_
     refine A_A rfl (A_I (k:=0) isAgg3 rfl rfl rfl) ?_
     refine A_M rfl rfl rfl rfl (decide_eq_false hg46) ?_
     refine A_A rfl (ok_gtr rfl rfl) ?_
     refine A_A rfl (A_1 rfl (decide_eq_false hg46) rfl) ?_
     refine A_O ?_
     exact A_J ⟨rfl,rfl,A_X (dq_Q ((or_iff_right (fun h=>h.elim (fun h=>h.elim (fun h=>h.elim (fun h=>hg24 h.1) hg34) hg41) hg46)).trans Iff.rfl)),trivial⟩ rfl
    refine A_E rfl rfl rfl rfl (decide_eq_true hg46) ?_
    refine A_E rfl rfl rfl rfl (decide_eq_true hg46) ?_
    refine A_E rfl rfl rfl rfl (decide_eq_true hg46) ?_
    refine A_E rfl rfl rfl rfl (decide_eq_true hg46) ?_
    refine A_A rfl (A_m rfl (decide_eq_true hg46) rfl) ?_
    refine A_O ?_
    exact A_J ⟨rfl,rfl,A_X (dq_T rfl (Or.inl (Or.inr hg46))),trivial⟩ rfl
   refine A_E rfl rfl rfl rfl (decide_eq_true hg41) ?_
   refine A_E rfl rfl rfl rfl (decide_eq_true hg41) ?_
   refine A_A rfl (A_m rfl (decide_eq_true hg41) rfl) ?_
   refine emm rfl ?_
   refine A_E rfl rfl rfl rfl rfl ?_
   refine A_E rfl rfl rfl rfl rfl ?_
   refine A_E rfl rfl rfl rfl rfl ?_
   refine A_E rfl rfl rfl rfl rfl ?_
   refine A_E rfl rfl rfl rfl rfl ?_
   refine A_A rfl (A_m rfl rfl rfl) ?_
   refine A_O ?_
   exact A_J ⟨rfl,rfl,A_X (dq_T rfl (Or.inl (Or.inl (Or.inr hg41)))),trivial⟩ rfl
  refine A_E rfl rfl rfl rfl (decide_eq_true hg34) ?_
  refine A_E rfl rfl rfl rfl (decide_eq_true hg34) ?_
  refine A_E rfl rfl rfl rfl (decide_eq_true hg34) ?_
  refine A_E rfl rfl rfl rfl (decide_eq_true hg34) ?_
  refine A_A rfl (A_m rfl (decide_eq_true hg34) rfl) ?_
  refine emm rfl ?_
  refine A_E rfl rfl rfl rfl rfl ?_
  refine A_E rfl rfl rfl rfl rfl ?_
  refine A_E rfl rfl rfl rfl rfl ?_
  refine A_A rfl (A_m rfl rfl rfl) ?_
  refine emm rfl ?_
  refine A_E rfl rfl rfl rfl rfl ?_
  refine A_E rfl rfl rfl rfl rfl ?_
  refine A_E rfl rfl rfl rfl rfl ?_
  refine A_E rfl rfl rfl rfl rfl ?_
  refine A_E rfl rfl rfl rfl rfl ?_
  refine A_A rfl (A_m rfl rfl rfl) ?_
  refine A_O ?_
  exact A_J ⟨rfl,rfl,A_X (dq_T rfl (Or.inl (Or.inl (Or.inl (Or.inr hg34))))),trivial⟩ rfl
 refine A_0 K10 ?_
 refine A_G rfl (fun h52=>?_) (fun h52=>?_)
 ·refine esk rfl ?_
  refine A_Q ?_
  exact retR1 (.inr rfl) results27 (A_L (A_S rfl (A_Z (by exact (rgErr_6 hF h20 (by unfold rgBad;omega)).symm))))
 refine esp K9 ?_
 refine A_C fun _ K12=>?_
 refine A_C fun _ K13=>?_
 refine ent_cut (⟨[(1,aEx (.pointer (some ⟨b1_1,0,none⟩))),(3,aInt (↑r.Points.length:Int)),(64,aBool (decide ((r.Kind=1)/\(r.D≠((2*r.K)-2)))))],[oBox b1_1 53 [aInt r.F.P,aInt r.F.M,aSl 1 false aInt r.F.mod,aInt r.Kind,aInt r.K,aInt r.D,aSl 1 false aInt r.Points]]⟩) ?_ ?_
 ·refine A_H ?_
  refine A_A rfl (A_B runUnderlying53 rfl sizeOf3 (by decide) rfl) ?_
  refine A_A rfl (A_I (k:=0) isAgg3 rfl rfl rfl) ?_
  refine A_A rfl (ok_eql rfl rfl) ?_
  refine emm rfl ?_
  refine ent_guardXDt rfl rfl rfl rfl (fun hg56=>?_) (fun hg56=>?_)
  ·refine A_A rfl (A_B runUnderlying53 rfl sizeOf3 (by decide) rfl) ?_
   refine A_M rfl rfl rfl rfl (decide_eq_true hg56) ?_
   refine A_A rfl (A_I (k:=0) isAgg3 rfl rfl rfl) ?_
   refine A_M rfl rfl rfl rfl (decide_eq_true hg56) ?_
   refine A_A rfl (A_B runUnderlying53 rfl sizeOf3 (by decide) rfl) ?_
   refine A_M rfl rfl rfl rfl (decide_eq_true hg56) ?_
   refine A_A rfl (A_I (k:=0) isAgg3 rfl rfl rfl) ?_
   refine A_M rfl rfl rfl rfl (decide_eq_true hg56) ?_
   refine A_A rfl (ok_mul rfl rfl (by omega) (by omega)) ?_
   refine A_M rfl rfl rfl rfl (decide_eq_true hg56) ?_
   refine A_A rfl (ok_sub rfl rfl (by omega) (by omega)) ?_
   refine A_M rfl rfl rfl rfl (decide_eq_true hg56) ?_
   refine A_A rfl (ok_neq rfl rfl) ?_
   refine A_A rfl (A_m rfl (decide_eq_true hg56) rfl) ?_
   refine A_O ?_
   exact A_J ⟨rfl,rfl,A_X (dq_Q ((and_iff_right hg56).trans Iff.rfl)),trivial⟩ rfl
  refine A_E rfl rfl rfl rfl (decide_eq_false hg56) ?_
  refine A_E rfl rfl rfl rfl (decide_eq_false hg56) ?_
  refine A_E rfl rfl rfl rfl (decide_eq_false hg56) ?_
  refine A_E rfl rfl rfl rfl (decide_eq_false hg56) ?_
  refine A_E rfl rfl rfl rfl (decide_eq_false hg56) ?_
  refine A_E rfl rfl rfl rfl (decide_eq_false hg56) ?_
  refine A_A rfl (A_1 rfl (decide_eq_false hg56) rfl) ?_
  refine A_O ?_
  exact A_J ⟨rfl,rfl,A_X (dq_F rfl (fun h=>hg56 h.1)),trivial⟩ rfl
 refine A_0 K13 ?_
 refine A_G rfl (fun h64=>?_) (fun h64=>?_)
 ·refine esk rfl ?_
  refine A_Q ?_
  exact retR1 (.inr rfl) results27 (A_L (A_S rfl (A_Z (by exact (rgErr_6 hF h20 (by unfold rgBad;omega)).symm))))
 have hrb:¬rgBad r:=by unfold rgBad;omega
 have hkb:1<=r.K/\r.K<=64:=by omega
 have hlw:(r.Points.map (rgPow r)).length=r.Points.length:=List.length_map _
 refine esp K12 ?_
 refine A_C fun _ K15=>?_
 refine esr rfl fun _ K16=>?_
 refine A_A rfl (A_B runUnderlying53 rfl sizeOf51 (by decide) rfl) ?_
 refine A_A rfl (A_R (k:=0) ti51 rfl rfl rfl) ?_
 refine A_A rfl (A_B runUnderlying53 rfl sizeOf29 (by decide) rfl) ?_
 refine A_A rfl (A_I (k:=0) isAgg29 rfl rfl rfl) ?_
 refine A_A rfl (A_W (rEntries_ok r.F r.Points) rfl) ?_
 refine A_A rfl (ok_neq rfl rfl) ?_
 refine enk K16 ?_
 refine A_G rfl (fun h70=>?_) (fun h70=>?_)
 ·refine esk rfl ?_
  refine A_Q ?_
  exact retR1 (.inr rfl) results27 (A_L (A_S rfl (A_Z (by exact (rgErr_2 hF h20 hrb (by by_cases h:outF r.F r.Points;exact h;exact absurd (entErr_zero.2 h) h70)).symm))))
 have hel:=entErr_zero.1 (Classical.not_not.1 h70)
 refine esp K15 ?_
 refine A_C fun _ K18=>?_
 refine esk rfl ?_
 refine A_K ?_
 refine A_d (fun (i:Int)=>(⟨[(1,aEx (.pointer (some ⟨b1_1,0,none⟩))),(3,aInt (↑r.Points.length:Int)),(4,aInt i)],[oBox b1_1 53 [aInt r.F.P,aInt r.F.M,aSl 1 false aInt r.F.mod,aInt r.Kind,aInt r.K,aInt r.D,aSl 1 false aInt r.Points]]⟩:St)) (fun (i:Int)=>(0<=i)/\(i<=r.Points.length)/\((r.Points.take i.toNat).Nodup)) (fun (i:Int)=>(r.Points.length-i).toNat) 0 ⟨(by omega),(by omega),(by simp)⟩ (A_J ⟨rfl,rfl,A_V (A_p (show 0=(0:Int) by rfl)),trivial⟩ rfl) ?_
 rintro i ⟨k0,k1,kn⟩
 show Ent _ ⟨_,[_]⟩ _
 refine A_C fun _ K20=>?_
 refine esr rfl fun _ K21=>?_
 refine A_A rfl (A_r rfl rfl) ?_
 refine enk K21 ?_
 refine A_G rfl (fun h73=>?_) (fun h73=>?_)
 ·refine esp K20 ?_
  refine A_C fun _ K22=>?_
  refine A_K ?_
  refine esk rfl ?_
  refine A_K ?_
  refine A_d (fun (j:Int)=>(⟨[(1,aEx (.pointer (some ⟨b1_1,0,none⟩))),(3,aInt (↑r.Points.length:Int)),(4,aInt i),(5,aInt j)],[oBox b1_1 53 [aInt r.F.P,aInt r.F.M,aSl 1 false aInt r.F.mod,aInt r.Kind,aInt r.K,aInt r.D,aSl 1 false aInt r.Points]]⟩:St)) (fun (j:Int)=>(0<=j)/\(j<=i)/\(∀q:Nat,(q:Int)<j->ix 0 r.Points i≠ix 0 r.Points q)) (fun (j:Int)=>(i-j).toNat) 0 ⟨(by omega),‹_›,(fun q hq=>by omega)⟩ (A_J ⟨rfl,rfl,rfl,A_V (A_p (show 0=(0:Int) by rfl)),trivial⟩ rfl) ?_
  rintro j ⟨j0,j1,jn⟩
  show Ent _ ⟨_,[_]⟩ _
  refine A_C fun _ K24=>?_
  refine esr rfl fun _ K25=>?_
  refine A_A rfl (A_r rfl rfl) ?_
  refine enk K25 ?_
  refine A_G rfl (fun h78=>?_) (fun h78=>?_)
  ·refine esp K24 ?_
   refine A_C fun _ K26=>?_
   refine A_K ?_
   refine A_C fun _ K27=>?_
   refine A_w 11 mixed (by kernel_rfl) (by kernel_rfl) (by kernel_rfl) ?_
   refine dw_o rfl (A_B runUnderlying53 rfl sizeOf29 (by decide) rfl) ?_
   refine dw_o rfl (A_I (k:=0) isAgg29 rfl rfl rfl) ?_
   refine dw_o rfl (A_D rfl) ?_
   refine dw_o rfl (A_a 0 sl29 rfl rfl (by omega) (by omega)) ?_
   refine dw_o rfl (A_P ti3 rfl) ?_
   refine dw_o rfl (A_B runUnderlying53 rfl sizeOf29 (by decide) rfl) ?_
   refine dw_o rfl (A_I (k:=0) isAgg29 rfl rfl rfl) ?_
   refine dw_o rfl (A_D rfl) ?_
   refine dw_o rfl (A_a 0 sl29 rfl rfl (by omega) (by omega)) ?_
   refine dw_o rfl (A_P ti3 rfl) ?_
   refine dw_o rfl (ok_eql rfl rfl) ?_
   refine dw_nil ?_
   refine enk K27 ?_
   refine A_G rfl (fun h91=>?_) (fun h91=>?_)
   ·refine esk rfl ?_
    refine A_Q ?_
    exact retR1 (.inr rfl) results27 (A_L (A_S rfl (A_Z (by exact (rgErr_18 hF h20 hrb hel (nodup_of_take (n:=(i+1).toNat) (fun h=>((nodup_take_succ r.Points k0 h73).1 h).2 (by rw [h91];exact getD_mem_take 0 r.Points _ _ (by omega) (by omega))))).symm))))
   refine esp K26 ?_
   refine A_H ?_
   refine emm rfl ?_
   refine A_A rfl (A_n rfl rfl (by omega) (by omega)) ?_
   refine emm rfl ?_
   refine A_O ?_
   refine A_U (s:=(j)) (j+1) ⟨(by omega),‹_›,(fun q hq=>by by_cases hqj:(q:Int)=j;(rw [hqj];exact h91);exact jn q (by omega))⟩ (by omega) (A_J ⟨rfl,rfl,rfl,rfl,trivial⟩ rfl)
  refine A_e ?_
  refine A_0 K22 ?_
  refine A_H ?_
  refine emm rfl ?_
  refine A_A rfl (A_n rfl rfl (by omega) (by omega)) ?_
  refine emm rfl ?_
  refine A_O ?_
  refine A_U (s:=(i)) (i+1) ⟨(by omega),‹_›,((nodup_take_succ r.Points k0 h73).2 ⟨kn,fun hm=>by obtain ⟨q,q1,q2,q3⟩:=mem_take_getD 0 r.Points _ _ hm;exact jn q (by omega) q3.symm⟩)⟩ (by omega) (A_J ⟨rfl,rfl,rfl,trivial⟩ rfl)
 have hnd:r.Points.Nodup:=by rw [List.take_of_length_le (by omega)] at kn;exact kn
 refine A_e ?_
 refine A_0 K18 ?_
 refine A_C fun _ K29=>?_
 refine esk rfl ?_
 refine A_K ?_
 refine A_d (fun (u:Int)=>(⟨[(1,aEx (.pointer (some ⟨b1_1,0,none⟩))),(3,aInt (↑r.Points.length:Int)),(6,aInt u)],[oBox b1_1 53 [aInt r.F.P,aInt r.F.M,aSl 1 false aInt r.F.mod,aInt r.Kind,aInt r.K,aInt r.D,aSl 1 false aInt r.Points]]⟩:St)) (fun (u:Int)=>(0<=u)/\(u<=r.Points.length)/\(r.Kind=1->((r.Points.map (rgPow r)).take u.toNat).Nodup)) (fun (u:Int)=>(r.Points.length-u).toNat) 0 ⟨(by omega),(by omega),(fun _=>by simp)⟩ (A_J ⟨rfl,rfl,A_V (A_p (show 0=(0:Int) by rfl)),trivial⟩ rfl) ?_
 rintro u ⟨m0,m1,mn⟩
 show Ent _ ⟨_,[_]⟩ _
 refine A_C fun _ K31=>?_
 refine esr rfl fun _ K32=>?_
 refine A_A rfl (A_r rfl rfl) ?_
 refine enk K32 ?_
 refine A_G rfl (fun h94=>?_) (fun h94=>?_)
 ·have hwi:=ix_map_pow (r:=r) m0 h94
  refine esp K31 ?_
  refine A_C fun _ K33=>?_
  refine A_K ?_
  refine esk rfl ?_
  refine A_K ?_
  refine A_d (fun (v:Int)=>(⟨[(1,aEx (.pointer (some ⟨b1_1,0,none⟩))),(3,aInt (↑r.Points.length:Int)),(6,aInt u),(7,aInt v)],[oBox b1_1 53 [aInt r.F.P,aInt r.F.M,aSl 1 false aInt r.F.mod,aInt r.Kind,aInt r.K,aInt r.D,aSl 1 false aInt r.Points]]⟩:St)) (fun (v:Int)=>(0<=v)/\(v<=u)/\(r.Kind=1->∀q:Nat,(q:Int)<v->ix 0 (r.Points.map (rgPow r)) u≠ix 0 (r.Points.map (rgPow r)) q)) (fun (v:Int)=>(u-v).toNat) 0 ⟨(by omega),‹_›,(fun _ q hq=>by omega)⟩ (A_J ⟨rfl,rfl,rfl,A_V (A_p (show 0=(0:Int) by rfl)),trivial⟩ rfl) ?_
  rintro v ⟨v0,v1,vn⟩
  show Ent _ ⟨_,[_]⟩ _
  refine A_C fun _ K35=>?_
  refine esr rfl fun _ K36=>?_
  refine A_A rfl (A_r rfl rfl) ?_
  refine enk K36 ?_
  refine A_G rfl (fun h99=>?_) (fun h99=>?_)
  ·have hwj:=ix_map_pow (r:=r) (i:=v) v0 (by omega)
   refine esp K35 ?_
   refine A_C fun _ K37=>?_
   refine A_K ?_
   refine A_C fun _ K38=>?_
   refine ent_cut (⟨[(1,aEx (.pointer (some ⟨b1_1,0,none⟩))),(3,aInt (↑r.Points.length:Int)),(6,aInt u),(7,aInt v),(129,aBool (decide ((r.Kind=1)/\((powF r.F (ix 0 r.Points u) (r.K-1))=(powF r.F (ix 0 r.Points v) (r.K-1))))))],[oBox b1_1 53 [aInt r.F.P,aInt r.F.M,aSl 1 false aInt r.F.mod,aInt r.Kind,aInt r.K,aInt r.D,aSl 1 false aInt r.Points]]⟩) ?_ ?_
   ·refine A_w 28 mixed (by kernel_rfl) (drawQ_F (by kernel_rfl)) (by kernel_rfl) ?_
    refine dw_o rfl (A_B runUnderlying53 rfl sizeOf3 (by decide) rfl) ?_
    refine dw_o rfl (A_I (k:=0) isAgg3 rfl rfl rfl) ?_
    refine dw_o rfl (ok_eql rfl rfl) ?_
    refine dw_o rfl (A_D rfl) ?_
    refine dw_guardDt rfl rfl rfl rfl (fun hg105=>?_) (fun hg105=>?_)
    ·refine dw_o rfl (A_B runUnderlying53 rfl sizeOf51 (by decide) rfl) ?_
     refine A_i rfl rfl rfl rfl (decide_eq_true hg105) ?_
     refine dw_o rfl (A_R (k:=0) ti51 rfl rfl rfl) ?_
     refine A_i rfl rfl rfl rfl (decide_eq_true hg105) ?_
     refine dw_o rfl (A_B runUnderlying53 rfl sizeOf29 (by decide) rfl) ?_
     refine A_i rfl rfl rfl rfl (decide_eq_true hg105) ?_
     refine dw_o rfl (A_I (k:=0) isAgg29 rfl rfl rfl) ?_
     refine A_i rfl rfl rfl rfl (decide_eq_true hg105) ?_
     refine dw_o rfl (A_D rfl) ?_
     refine A_i rfl rfl rfl rfl (decide_eq_true hg105) ?_
     refine dw_o rfl (A_a 0 sl29 rfl rfl (by omega) (by omega)) ?_
     refine A_i rfl rfl rfl rfl (decide_eq_true hg105) ?_
     refine dw_o rfl (A_P ti3 rfl) ?_
     refine A_i rfl rfl rfl rfl (decide_eq_true hg105) ?_
     refine dw_o rfl (A_B runUnderlying53 rfl sizeOf3 (by decide) rfl) ?_
     refine A_i rfl rfl rfl rfl (decide_eq_true hg105) ?_
     refine dw_o rfl (A_I (k:=0) isAgg3 rfl rfl rfl) ?_
     refine A_i rfl rfl rfl rfl (decide_eq_true hg105) ?_
     refine dw_o rfl (ok_sub rfl rfl (by omega) (by omega)) ?_
     refine A_i rfl rfl rfl rfl (decide_eq_true hg105) ?_
     refine dw_o rfl (A_W (rpower_ok r.F (ix 0 r.Points u) (r.K-1) ‹_› (by omega) (by omega)) rfl) ?_
     refine A_i rfl rfl rfl rfl (decide_eq_true hg105) ?_
     refine dw_o rfl (A_B runUnderlying53 rfl sizeOf51 (by decide) rfl) ?_
     refine A_i rfl rfl rfl rfl (decide_eq_true hg105) ?_
     refine dw_o rfl (A_R (k:=0) ti51 rfl rfl rfl) ?_
     refine A_i rfl rfl rfl rfl (decide_eq_true hg105) ?_
     refine dw_o rfl (A_B runUnderlying53 rfl sizeOf29 (by decide) rfl) ?_
     refine A_i rfl rfl rfl rfl (decide_eq_true hg105) ?_
     refine dw_o rfl (A_I (k:=0) isAgg29 rfl rfl rfl) ?_
     refine A_i rfl rfl rfl rfl (decide_eq_true hg105) ?_
     refine dw_o rfl (A_D rfl) ?_
     refine A_i rfl rfl rfl rfl (decide_eq_true hg105) ?_
     refine dw_o rfl (A_a 0 sl29 rfl rfl (by omega) (by omega)) ?_
     refine A_i rfl rfl rfl rfl (decide_eq_true hg105) ?_
     refine dw_o rfl (A_P ti3 rfl) ?_
     refine A_i rfl rfl rfl rfl (decide_eq_true hg105) ?_
     refine dw_o rfl (A_B runUnderlying53 rfl sizeOf3 (by decide) rfl) ?_
     refine A_i rfl rfl rfl rfl (decide_eq_true hg105) ?_
     refine dw_o rfl (A_I (k:=0) isAgg3 rfl rfl rfl) ?_
     refine A_i rfl rfl rfl rfl (decide_eq_true hg105) ?_
     refine dw_o rfl (ok_sub rfl rfl (by omega) (by omega)) ?_
     refine A_i rfl rfl rfl rfl (decide_eq_true hg105) ?_
     refine dw_o rfl (A_W (rpower_ok r.F (ix 0 r.Points v) (r.K-1) ‹_› (by omega) (by omega)) rfl) ?_
     refine A_i rfl rfl rfl rfl (decide_eq_true hg105) ?_
     refine dw_o rfl (ok_eql rfl rfl) ?_
     refine dw_o rfl (A_m rfl (decide_eq_true hg105) rfl) ?_
     refine dw_nil ?_
     refine A_O ?_
     exact A_J ⟨rfl,rfl,rfl,rfl,A_X (dq_Q ((and_iff_right hg105).trans Iff.rfl)),trivial⟩ rfl
    refine A_g rfl rfl rfl rfl (decide_eq_false hg105) ?_
    refine A_g rfl rfl rfl rfl (decide_eq_false hg105) ?_
    refine A_g rfl rfl rfl rfl (decide_eq_false hg105) ?_
    refine A_g rfl rfl rfl rfl (decide_eq_false hg105) ?_
    refine A_g rfl rfl rfl rfl (decide_eq_false hg105) ?_
    refine A_g rfl rfl rfl rfl (decide_eq_false hg105) ?_
    refine A_g rfl rfl rfl rfl (decide_eq_false hg105) ?_
    refine A_g rfl rfl rfl rfl (decide_eq_false hg105) ?_
    refine A_g rfl rfl rfl rfl (decide_eq_false hg105) ?_
    refine A_g rfl rfl rfl rfl (decide_eq_false hg105) ?_
    refine A_g rfl rfl rfl rfl (decide_eq_false hg105) ?_
    refine A_g rfl rfl rfl rfl (decide_eq_false hg105) ?_
    refine A_g rfl rfl rfl rfl (decide_eq_false hg105) ?_
    refine A_g rfl rfl rfl rfl (decide_eq_false hg105) ?_
    refine A_g rfl rfl rfl rfl (decide_eq_false hg105) ?_
    refine A_g rfl rfl rfl rfl (decide_eq_false hg105) ?_
    refine A_g rfl rfl rfl rfl (decide_eq_false hg105) ?_
    refine A_g rfl rfl rfl rfl (decide_eq_false hg105) ?_
    refine A_g rfl rfl rfl rfl (decide_eq_false hg105) ?_
    refine A_g rfl rfl rfl rfl (decide_eq_false hg105) ?_
    refine A_g rfl rfl rfl rfl (decide_eq_false hg105) ?_
    refine A_g rfl rfl rfl rfl (decide_eq_false hg105) ?_
    refine dw_o rfl (A_1 rfl (decide_eq_false hg105) rfl) ?_
    refine dw_nil ?_
    refine A_O ?_
    exact A_J ⟨rfl,rfl,rfl,rfl,A_X (dq_F rfl (fun h=>hg105 h.1)),trivial⟩ rfl
   refine A_0 K38 ?_
   refine A_G rfl (fun h129=>?_) (fun h129=>?_)
   ·refine esk rfl ?_
    refine A_Q ?_
    exact retR1 (.inr rfl) results27 (A_L (A_S rfl (A_Z (by exact (rgErr_5 hF h20 hrb hel hnd h129.1 (nodup_of_take (n:=(u+1).toNat) (fun h=>((nodup_take_succ (r.Points.map (rgPow r)) m0 (by omega)).1 h).2 (by rw [hwi,show rgPow r (ix 0 r.Points u)=rgPow r (ix 0 r.Points v) from h129.2,<- hwj];exact getD_mem_take 0 (r.Points.map (rgPow r)) _ _ (by omega) (by omega))))).symm))))
   refine esp K37 ?_
   refine A_H ?_
   refine emm rfl ?_
   refine A_A rfl (A_n rfl rfl (by omega) (by omega)) ?_
   refine emm rfl ?_
   refine A_O ?_
   refine A_U (s:=(v)) (v+1) ⟨(by omega),‹_›,(fun hk q hq=>by by_cases hqj:(q:Int)=v;(rw [hqj,hwi,hwj];exact fun h=>h129 ⟨hk,h⟩);exact vn hk q (by omega))⟩ (by omega) (A_J ⟨rfl,rfl,rfl,rfl,trivial⟩ rfl)
  refine A_e ?_
  refine A_0 K33 ?_
  refine A_H ?_
  refine emm rfl ?_
  refine A_A rfl (A_n rfl rfl (by omega) (by omega)) ?_
  refine emm rfl ?_
  refine A_O ?_
  refine A_U (s:=(u)) (u+1) ⟨(by omega),‹_›,(fun hk=>(nodup_take_succ (r.Points.map (rgPow r)) m0 (by omega)).2 ⟨mn hk,fun hm=>by obtain ⟨q,q1,q2,q3⟩:=mem_take_getD 0 (r.Points.map (rgPow r)) _ _ hm;exact vn hk q (by omega) q3.symm⟩)⟩ (by omega) (A_J ⟨rfl,rfl,rfl,trivial⟩ rfl)
 refine A_e ?_
 refine A_0 K29 ?_
 refine esk rfl ?_
 refine A_Q ?_
 exact retR1 (.inr rfl) results27 (A_L (A_S rfl (A_Z (by exact (rgErr_zero.2 ⟨hF,by omega,hrb,hel,hnd,fun hk=>by have:=mn hk;rw [List.take_of_length_le (by omega)] at this;exact this⟩).symm))))

theorem RgCheck_ok (r:Rgn) (hk1 : -9223372036854775808<=r.K) (hk2:r.K<=9223372036854775807) (hd1 : -9223372036854775808<=r.D) (hd2:r.D<=9223372036854775807):Ctr Try.prog 28 [aRgn r] (aInt (rgErr r)):=by
 refine ctr_of Try.call28 func28 rfl rfl ?_
 intro w O
 refine A_o 0 2 rfl rfl (fun hlen0_2=>?_)
 refine A_o 0 6 rfl rfl (fun hlen0_6=>?_)
 refine esr rfl fun _ K1=>?_
 refine A_y rfl rfl (AllOne.mem ⟨(A_N _),(A_N _),A_j,(A_N _),(A_N _),(A_N _),A_j,trivial⟩) (fun b1_1=>?_)
 refine emm rfl ?_
 refine enk K1 ?_
 refine esr rfl fun _ K2=>?_
 refine A_A rfl (A_B runUnderlying53 rfl sizeOf51 (by decide) rfl) ?_
 refine A_A rfl (A_R (k:=0) ti51 rfl rfl rfl) ?_
 rcases Classical.em (FOk r.F) with hF | hF
 ·refine A_A rfl (A_W (CtrF.ctr (New_ok r.F hF)) rfl) ?_
  refine emm rfl ?_
  refine A_A rfl (A_T rfl rfl) ?_
  refine A_A rfl (A_T rfl rfl) ?_
  refine emm rfl ?_
  refine enk K2 ?_
  refine esr rfl fun _ K3=>?_
  refine A_A rfl (A_B runUnderlying53 rfl sizeOf29 (by decide) rfl) ?_
  refine A_A rfl (A_I (k:=0) isAgg29 rfl rfl rfl) ?_
  refine A_A rfl (ok_len rfl runUnderlying29 rfl) ?_
  refine emm rfl ?_
  refine enk K3 ?_
  refine A_C fun _ K4=>?_
  refine A_K ?_
  refine esr rfl fun _ K5=>?_
  refine A_A rfl (ok_neq rfl rfl) ?_
  refine emm rfl ?_
  refine enk K5 ?_
  refine ent_condFP rfl (by decide) ?_
  refine A_C fun _ K6=>?_
  refine ent_cut (⟨[(1,aEx (.pointer (some ⟨b1_1,0,none⟩))),(3,aGF r.F),(5,aInt (↑r.Points.length:Int)),(26,aBool (decide (((↑r.Points.length:Int)<2)\/(64<(↑r.Points.length:Int)))))],[oBox b1_1 53 [aInt r.F.P,aInt r.F.M,aSl 1 false aInt r.F.mod,aInt r.Kind,aInt r.K,aInt r.D,aSl 1 false aInt r.Points]]⟩) ?_ ?_
  ·refine A_H ?_
   refine emm rfl ?_
   refine A_A rfl (A_r rfl rfl) ?_
   refine emm rfl ?_
   refine A_2 rfl rfl rfl rfl (fun hg29=>?_) (fun hg29=>?_)
   ·refine emm rfl ?_
    refine A_M rfl rfl rfl rfl (decide_eq_false hg29) ?_
    refine A_A rfl (ok_gtr rfl rfl) ?_
    refine A_A rfl (A_1 rfl (decide_eq_false hg29) rfl) ?_
    refine emm rfl ?_
    refine A_O ?_
    exact A_J ⟨rfl,rfl,rfl,A_X (dq_Q ((or_iff_right hg29).trans Iff.rfl)),trivial⟩ rfl
   refine A_E rfl rfl rfl rfl (decide_eq_true hg29) ?_
   refine A_A rfl (A_m rfl (decide_eq_true hg29) rfl) ?_
   refine emm rfl ?_
   refine A_O ?_
   exact A_J ⟨rfl,rfl,rfl,A_X (dq_T rfl (Or.inl hg29)),trivial⟩ rfl
  refine A_0 K6 ?_
  refine A_G rfl (fun h26=>?_) (fun h26=>?_)
  ·refine esk rfl ?_
   refine A_Q ?_
   exact retR1 (.inr rfl) results28 (A_L (A_S rfl (A_Z (by exact (rgErr_4 hF h26).symm))))
  refine A_C fun _ K8=>?_
  refine A_C fun _ K9=>?_
  refine ent_cut (⟨[(1,aEx (.pointer (some ⟨b1_1,0,none⟩))),(3,aGF r.F),(5,aInt (↑r.Points.length:Int)),(33,aBool (decide ((r.Kind≠0)/\(r.Kind≠1))))],[oBox b1_1 53 [aInt r.F.P,aInt r.F.M,aSl 1 false aInt r.F.mod,aInt r.Kind,aInt r.K,aInt r.D,aSl 1 false aInt r.Points]]⟩) ?_ ?_
  ·refine A_H ?_
   refine A_A rfl (A_B runUnderlying53 rfl sizeOf3 (by decide) rfl) ?_
   refine A_A rfl (A_I (k:=0) isAgg3 rfl rfl rfl) ?_
   refine A_A rfl (ok_neq rfl rfl) ?_
   refine emm rfl ?_
   refine ent_guardXDt rfl rfl rfl rfl (fun hg37=>?_) (fun hg37=>?_)
   ·refine A_A rfl (A_B runUnderlying53 rfl sizeOf3 (by decide) rfl) ?_
    refine A_M rfl rfl rfl rfl (decide_eq_true hg37) ?_
    refine A_A rfl (A_I (k:=0) isAgg3 rfl rfl rfl) ?_
    refine A_M rfl rfl rfl rfl (decide_eq_true hg37) ?_
    refine A_A rfl (ok_neq rfl rfl) ?_
    refine A_A rfl (A_m rfl (decide_eq_true hg37) rfl) ?_
    refine emm rfl ?_
    refine A_O ?_
    exact A_J ⟨rfl,rfl,rfl,A_X (dq_Q ((and_iff_right hg37).trans Iff.rfl)),trivial⟩ rfl
   refine A_E rfl rfl rfl rfl (decide_eq_false hg37) ?_
   refine A_E rfl rfl rfl rfl (decide_eq_false hg37) ?_
   refine A_A rfl (A_1 rfl (decide_eq_false hg37) rfl) ?_
   refine emm rfl ?_
   refine A_O ?_
   exact A_J ⟨rfl,rfl,rfl,A_X (dq_F rfl (fun h=>hg37 h.1)),trivial⟩ rfl
  refine A_0 K9 ?_
  refine A_G rfl (fun h33=>?_) (fun h33=>?_)
  ·refine esp K8 ?_
   refine ent_condTP rfl (decide_eq_true h33) ?_
   refine esk rfl ?_
   refine A_Q ?_
   exact retR1 (.inr rfl) results28 (A_L (A_S rfl (A_Z (by exact (rgErr_6 hF h26 (by unfold rgBad;omega)).symm))))
  refine A_C fun _ K11=>?_
  refine ent_cut (⟨[(1,aEx (.pointer (some ⟨b1_1,0,none⟩))),(3,aGF r.F),(33,aBool (decide ((r.D<1)\/(((↑r.Points.length:Int)-1)<r.D))))],[oBox b1_1 53 [aInt r.F.P,aInt r.F.M,aSl 1 false aInt r.F.mod,aInt r.Kind,aInt r.K,aInt r.D,aSl 1 false aInt r.Points]]⟩) ?_ ?_
  ·refine A_H ?_
   refine A_A rfl (A_B runUnderlying53 rfl sizeOf3 (by decide) rfl) ?_
   refine A_A rfl (A_I (k:=0) isAgg3 rfl rfl rfl) ?_
   refine A_A rfl (A_r rfl rfl) ?_
   refine emm rfl ?_
   refine A_2 rfl rfl rfl rfl (fun hg45=>?_) (fun hg45=>?_)
   ·refine A_A rfl (A_B runUnderlying53 rfl sizeOf3 (by decide) rfl) ?_
    refine A_M rfl rfl rfl rfl (decide_eq_false hg45) ?_
    refine A_A rfl (A_I (k:=0) isAgg3 rfl rfl rfl) ?_
    refine A_M rfl rfl rfl rfl (decide_eq_false hg45) ?_
    refine emm rfl ?_
    refine A_M rfl rfl rfl rfl (decide_eq_false hg45) ?_
    refine A_A rfl (ok_sub rfl rfl (by omega) (by omega)) ?_
    refine A_M rfl rfl rfl rfl (decide_eq_false hg45) ?_
    refine A_A rfl (ok_gtr rfl rfl) ?_
    refine A_A rfl (A_1 rfl (decide_eq_false hg45) rfl) ?_
    refine emm rfl ?_
    refine A_O ?_
    exact A_J ⟨rfl,rfl,A_X (dq_Q ((or_iff_right hg45).trans Iff.rfl)),trivial⟩ rfl
   refine A_E rfl rfl rfl rfl (decide_eq_true hg45) ?_
   refine A_E rfl rfl rfl rfl (decide_eq_true hg45) ?_
   refine A_E rfl rfl rfl rfl (decide_eq_true hg45) ?_
   refine A_E rfl rfl rfl rfl (decide_eq_true hg45) ?_
   refine A_A rfl (A_m rfl (decide_eq_true hg45) rfl) ?_
   refine emm rfl ?_
   refine A_O ?_
   exact A_J ⟨rfl,rfl,A_X (dq_T rfl (Or.inl hg45)),trivial⟩ rfl
  refine A_0 K11 ?_
  refine A_G rfl (fun h33=>?_) (fun h33=>?_)
  ·refine esp K8 ?_
   refine ent_condTP rfl (decide_eq_true h33) ?_
   refine esk rfl ?_
   refine A_Q ?_
   exact retR1 (.inr rfl) results28 (A_L (A_S rfl (A_Z (by exact (rgErr_6 hF h26 (by unfold rgBad;omega)).symm))))
  refine A_C fun _ K13=>?_
  refine ent_cut (⟨[(1,aEx (.pointer (some ⟨b1_1,0,none⟩))),(3,aGF r.F),(33,aBool (decide ((r.K<1)\/(r.D<r.K))))],[oBox b1_1 53 [aInt r.F.P,aInt r.F.M,aSl 1 false aInt r.F.mod,aInt r.Kind,aInt r.K,aInt r.D,aSl 1 false aInt r.Points]]⟩) ?_ ?_
  ·refine A_H ?_
   refine A_A rfl (A_B runUnderlying53 rfl sizeOf3 (by decide) rfl) ?_
   refine A_A rfl (A_I (k:=0) isAgg3 rfl rfl rfl) ?_
   refine A_A rfl (A_r rfl rfl) ?_
   refine emm rfl ?_
   refine A_2 rfl rfl rfl rfl (fun hg55=>?_) (fun hg55=>?_)
   ·refine A_A rfl (A_B runUnderlying53 rfl sizeOf3 (by decide) rfl) ?_
    refine A_M rfl rfl rfl rfl (decide_eq_false hg55) ?_
    refine A_A rfl (A_I (k:=0) isAgg3 rfl rfl rfl) ?_
    refine A_M rfl rfl rfl rfl (decide_eq_false hg55) ?_
    refine A_A rfl (A_B runUnderlying53 rfl sizeOf3 (by decide) rfl) ?_
    refine A_M rfl rfl rfl rfl (decide_eq_false hg55) ?_
    refine A_A rfl (A_I (k:=0) isAgg3 rfl rfl rfl) ?_
    refine A_M rfl rfl rfl rfl (decide_eq_false hg55) ?_
    refine A_A rfl (ok_gtr rfl rfl) ?_
    refine A_A rfl (A_1 rfl (decide_eq_false hg55) rfl) ?_
    refine emm rfl ?_
    refine A_O ?_
    exact A_J ⟨rfl,rfl,A_X (dq_Q ((or_iff_right hg55).trans Iff.rfl)),trivial⟩ rfl
   refine A_E rfl rfl rfl rfl (decide_eq_true hg55) ?_
   refine A_E rfl rfl rfl rfl (decide_eq_true hg55) ?_
   refine A_E rfl rfl rfl rfl (decide_eq_true hg55) ?_
   refine A_E rfl rfl rfl rfl (decide_eq_true hg55) ?_
   refine A_A rfl (A_m rfl (decide_eq_true hg55) rfl) ?_
   refine emm rfl ?_
   refine A_O ?_
   exact A_J ⟨rfl,rfl,A_X (dq_T rfl (Or.inl hg55)),trivial⟩ rfl
  refine A_0 K13 ?_
  refine A_G rfl (fun h33=>?_) (fun h33=>?_)
  ·refine esp K8 ?_
   refine ent_condTP rfl (decide_eq_true h33) ?_
   refine esk rfl ?_
   refine A_Q ?_
   exact retR1 (.inr rfl) results28 (A_L (A_S rfl (A_Z (by exact (rgErr_6 hF h26 (by unfold rgBad;omega)).symm))))
  refine ent_cut (⟨[(1,aEx (.pointer (some ⟨b1_1,0,none⟩))),(3,aGF r.F),(33,aBool (decide ((r.Kind=1)/\(r.D≠((2*r.K)-2)))))],[oBox b1_1 53 [aInt r.F.P,aInt r.F.M,aSl 1 false aInt r.F.mod,aInt r.Kind,aInt r.K,aInt r.D,aSl 1 false aInt r.Points]]⟩) ?_ ?_
  ·refine A_H ?_
   refine A_A rfl (A_B runUnderlying53 rfl sizeOf3 (by decide) rfl) ?_
   refine A_A rfl (A_I (k:=0) isAgg3 rfl rfl rfl) ?_
   refine A_A rfl (ok_eql rfl rfl) ?_
   refine emm rfl ?_
   refine ent_guardXDt rfl rfl rfl rfl (fun hg65=>?_) (fun hg65=>?_)
   ·refine A_A rfl (A_B runUnderlying53 rfl sizeOf3 (by decide) rfl) ?_
    refine A_M rfl rfl rfl rfl (decide_eq_true hg65) ?_
    refine A_A rfl (A_I (k:=0) isAgg3 rfl rfl rfl) ?_
    refine A_M rfl rfl rfl rfl (decide_eq_true hg65) ?_
    refine A_A rfl (A_B runUnderlying53 rfl sizeOf3 (by decide) rfl) ?_
    refine A_M rfl rfl rfl rfl (decide_eq_true hg65) ?_
    refine A_A rfl (A_I (k:=0) isAgg3 rfl rfl rfl) ?_
    refine A_M rfl rfl rfl rfl (decide_eq_true hg65) ?_
    refine A_A rfl (ok_mul rfl rfl (by omega) (by omega)) ?_
    refine A_M rfl rfl rfl rfl (decide_eq_true hg65) ?_
    refine A_A rfl (ok_sub rfl rfl (by omega) (by omega)) ?_
    refine A_M rfl rfl rfl rfl (decide_eq_true hg65) ?_
    refine A_A rfl (ok_neq rfl rfl) ?_
    refine A_A rfl (A_m rfl (decide_eq_true hg65) rfl) ?_
    refine emm rfl ?_
    refine A_O ?_
    exact A_J ⟨rfl,rfl,A_X (dq_Q ((and_iff_right hg65).trans Iff.rfl)),trivial⟩ rfl
   refine A_E rfl rfl rfl rfl (decide_eq_false hg65) ?_
   refine A_E rfl rfl rfl rfl (decide_eq_false hg65) ?_
   refine A_E rfl rfl rfl rfl (decide_eq_false hg65) ?_
   refine A_E rfl rfl rfl rfl (decide_eq_false hg65) ?_
   refine A_E rfl rfl rfl rfl (decide_eq_false hg65) ?_
   refine A_E rfl rfl rfl rfl (decide_eq_false hg65) ?_
   refine A_A rfl (A_1 rfl (decide_eq_false hg65) rfl) ?_
   refine emm rfl ?_
   refine A_O ?_
   exact A_J ⟨rfl,rfl,A_X (dq_F rfl (fun h=>hg65 h.1)),trivial⟩ rfl
  refine A_0 K8 ?_
  refine A_G rfl (fun h33=>?_) (fun h33=>?_)
  ·refine esk rfl ?_
   refine A_Q ?_
   exact retR1 (.inr rfl) results28 (A_L (A_S rfl (A_Z (by exact (rgErr_6 hF h26 (by unfold rgBad;omega)).symm))))
  refine esp K4 ?_
  refine A_C fun _ K16=>?_
  refine esr rfl fun _ K17=>?_
  refine A_A rfl (A_B runUnderlying53 rfl sizeOf29 (by decide) rfl) ?_
  refine A_A rfl (A_I (k:=0) isAgg29 rfl rfl rfl) ?_
  refine A_A rfl (ok_len rfl runUnderlying29 rfl) ?_
  refine emm rfl ?_
  refine enk K17 ?_
  refine A_K ?_
  refine A_d (fun (i:Int)=>(⟨[(1,aEx (.pointer (some ⟨b1_1,0,none⟩))),(3,aGF r.F),(75,aSl 1 false aInt r.Points),(76,aInt (↑r.Points.length:Int)),(77,aInt i)],[oBox b1_1 53 [aInt r.F.P,aInt r.F.M,aSl 1 false aInt r.F.mod,aInt r.Kind,aInt r.K,aInt r.D,aSl 1 false aInt r.Points]]⟩:St)) (fun (i:Int)=>(0<=i)/\(i<=r.Points.length)/\(¬outF r.F (r.Points.take i.toNat))) (fun (i:Int)=>(r.Points.length-i).toNat) 0 ⟨(by omega),(by omega),(by simp [outF])⟩ (A_J ⟨rfl,rfl,rfl,rfl,A_V (A_p (show 0=(0:Int) by rfl)),trivial⟩ rfl) ?_
  rintro i ⟨h0,h1,hn⟩
  show Ent _ ⟨_,[_]⟩ _
  refine esr rfl fun _ K18=>?_
  refine A_A rfl (A_r rfl rfl) ?_
  refine enk K18 ?_
  refine A_C fun _ K19=>?_
  refine A_G rfl (fun h78=>?_) (fun h78=>?_)
  ·refine esp K19 ?_
   refine A_C fun _ K20=>?_
   refine A_K ?_
   refine esr rfl fun _ K21=>?_
   refine A_A rfl (A_a 0 sl29 rfl rfl (by omega) (by omega)) ?_
   refine A_A rfl (A_P ti3 rfl) ?_
   refine emm rfl ?_
   refine enk K21 ?_
   refine esr rfl fun _ K22=>?_
   refine A_A rfl (A_W (Is_ok r.F (ix 0 r.Points i)) rfl) ?_
   refine A_A rfl (ok_notD rfl) ?_
   refine enk K22 ?_
   refine A_G rfl (fun h84=>?_) (fun h84=>?_)
   ·refine esk rfl ?_
    refine A_Q ?_
    exact retR1 (.inr rfl) results28 (A_L (A_S rfl (A_Z (by exact (rgErr_2 hF h26 (by unfold rgBad;omega) (outF_at h0 h78 h84)).symm))))
   refine esp K20 ?_
   refine A_H ?_
   refine A_A rfl (A_n rfl rfl (by omega) (by omega)) ?_
   refine emm rfl ?_
   refine A_O ?_
   refine A_U (s:=(i)) (i+1) ⟨(by omega),‹_›,(outF_succ h0 h78 hn (Classical.not_not.1 h84))⟩ (by omega) (A_J ⟨rfl,rfl,rfl,rfl,rfl,trivial⟩ rfl)
  have hel:¬outF r.F r.Points:=by rw [List.take_of_length_le (by omega)] at hn;exact hn
  have hrb:¬rgBad r:=by unfold rgBad;omega
  have hkb:1<=r.K/\r.K<=64:=by omega
  refine A_e ?_
  refine A_0 K16 ?_
  refine A_C fun _ K24=>?_
  refine esr rfl fun _ K25=>?_
  refine A_A rfl (A_B runUnderlying53 rfl sizeOf29 (by decide) rfl) ?_
  refine A_A rfl (A_I (k:=0) isAgg29 rfl rfl rfl) ?_
  refine A_A rfl (A_W (twice_ok r.Points) rfl) ?_
  refine enk K25 ?_
  refine A_G rfl (fun h88=>?_) (fun h88=>?_)
  ·refine esk rfl ?_
   refine A_Q ?_
   exact retR1 (.inr rfl) results28 (A_L (A_S rfl (A_Z (by exact (rgErr_18 hF h26 hrb hel h88).symm))))
  refine esp K24 ?_
  refine A_C fun _ K27=>?_
  refine esr rfl fun _ K28=>?_
  refine A_A rfl (A_B runUnderlying53 rfl sizeOf3 (by decide) rfl) ?_
  refine A_A rfl (A_I (k:=0) isAgg3 rfl rfl rfl) ?_
  refine A_A rfl (ok_eql rfl rfl) ?_
  refine enk K28 ?_
  refine A_G rfl (fun h91=>?_) (fun h91=>?_)
  ·refine esk rfl ?_
   refine A_C fun _ K30=>?_
   refine esr rfl fun _ K31=>?_
   refine A_A rfl (A_B runUnderlying53 rfl sizeOf29 (by decide) rfl) ?_
   refine A_A rfl (A_I (k:=0) isAgg29 rfl rfl rfl) ?_
   refine A_A rfl (ok_len rfl runUnderlying29 rfl) ?_
   refine emm rfl ?_
   refine enk K31 ?_
   refine A_K ?_
   refine ent_open 3 1 false aInt (fun _=>rfl) ?_
   refine A_d (fun (ss:Int×Option Nat×Nat)=>match ss with | (u,rr3,cc3)=>(⟨[(1,aEx (.pointer (some ⟨b1_1,0,none⟩))),(3,aGF r.F),(8,aEx (vec rr3 ((mapT (rgPow r) r.Points u).length) cc3)),(93,aSl 1 false aInt r.Points),(94,aInt (↑r.Points.length:Int)),(95,aInt u)],[oVec rr3 cc3 3 1 false aInt (mapT (rgPow r) r.Points u),oBox b1_1 53 [aInt r.F.P,aInt r.F.M,aSl 1 false aInt r.F.mod,aInt r.Kind,aInt r.K,aInt r.D,aSl 1 false aInt r.Points]]⟩:St)) (fun (ss:Int×Option Nat×Nat)=>match ss with | (u,rr3,cc3)=>(0<=u)/\(u<=r.Points.length)) (fun (ss:Int×Option Nat×Nat)=>match ss with | (u,rr3,cc3)=>(r.Points.length-u).toNat) (0,none,0) ⟨(by omega),(by omega)⟩ (A_J ⟨rfl,rfl,A_V ((show aEx (vec none ([]:List _).length 0)=aEx (vec none ((mapT (rgPow r) r.Points (0:Int)).length) 0) from av_vec (congrArg List.length (show mapT (rgPow r) r.Points (0:Int) = [] by rfl).symm))),rfl,rfl,A_V (A_p (show 0=(0:Int) by rfl)),trivial⟩ (A_F (A_s (show mapT (rgPow r) r.Points (0:Int) = [] by rfl)) (rfl))) ?_
   rintro ⟨u,rr3,cc3⟩ ⟨m0,m1⟩
   show Ent _ ⟨_,[_,_]⟩ _
   have hlm:=length_mapT (rgPow r) r.Points m1
   refine esr rfl fun _ K32=>?_
   refine A_A rfl (A_r rfl rfl) ?_
   refine enk K32 ?_
   refine A_C fun _ K33=>?_
   refine A_G rfl (fun h96=>?_) (fun h96=>?_)
   ·refine esp K33 ?_
    refine A_C fun _ K34=>?_
    refine A_K ?_
    refine esr rfl fun _ K35=>?_
    refine A_A rfl (A_a 0 sl29 rfl rfl (by omega) (by omega)) ?_
    refine A_A rfl (A_P ti3 rfl) ?_
    refine emm rfl ?_
    refine enk K35 ?_
    refine esr rfl fun _ K36=>?_
    refine A_A rfl (A_B runUnderlying53 rfl sizeOf3 (by decide) rfl) ?_
    refine A_A rfl (A_I (k:=1) isAgg3 rfl rfl rfl) ?_
    refine A_A rfl (ok_sub rfl rfl (by omega) (by omega)) ?_
    refine A_A rfl (A_W (Pow_ok r.F (ix 0 r.Points u) (r.K-1) ‹_› (by omega) (by omega)) rfl) ?_
    refine emm rfl ?_
    refine A_A rfl (A_T rfl rfl) ?_
    refine A_A rfl (A_T rfl rfl) ?_
    refine emm rfl ?_
    refine enk K36 ?_
    refine A_H ?_
    refine emm rfl ?_
    refine ent_appendL (k:=0) (enc:=aInt) (y:=powF r.F (ix 0 r.Points u) (r.K-1)) rfl rfl vt29 rfl rfl rfl rfl ((A_z (A_N _))) (by omega) (by omega) (by decide) (fun b111_4 c111_4=>?_)
    refine emm rfl ?_
    refine enk K34 ?_
    refine A_H ?_
    refine A_A rfl (A_n rfl rfl (by omega) (by omega)) ?_
    refine emm rfl ?_
    refine A_O ?_
    refine A_U (s:=(u,rr3,cc3)) (u+1,(some b111_4),c111_4) ⟨(by omega),‹_›⟩ (by dsimp only;omega) (A_J ⟨rfl,rfl,A_V (av_vec (congrArg List.length (show mapT (rgPow r) r.Points (u+1)=(mapT (rgPow r) r.Points u)++[powF r.F (ix 0 r.Points u) (r.K-1)] by exact mapT_succ 0 (rgPow r) r.Points m0 h96).symm)),rfl,rfl,rfl,trivial⟩ (A_F (A_s (show mapT (rgPow r) r.Points (u+1)=(mapT (rgPow r) r.Points u)++[powF r.F (ix 0 r.Points u) (r.K-1)] by exact mapT_succ 0 (rgPow r) r.Points m0 h96)) (rfl)))
   have hma:=mapT_all (rgPow r) r.Points (i:=u) (by omega)
   refine A_e ?_
   refine A_0 K30 ?_
   refine esr rfl fun _ K37=>?_
   refine A_A rfl (ok_callP [0] (by exact pl_ex) (twice_ok (mapT (rgPow r) r.Points u)) ⟨A_u rfl (cv_vec (k:=0) (off_lent rfl (by decide)) rfl rfl),trivial⟩) ?_
   refine enk K37 ?_
   refine A_G rfl (fun h114=>?_) (fun h114=>?_)
   ·rw [hma] at h114
    refine esk rfl ?_
    refine A_Q ?_
    exact retR1 (.inr rfl) results28 (A_L (A_S rfl (A_Z (by exact (rgErr_5 hF h26 hrb hel (Classical.not_not.1 h88) h91 h114).symm))))
   rw [hma] at h114
   refine esp K27 ?_
   refine esk rfl ?_
   refine A_Q ?_
   exact retR1 (.inr rfl) results28 (A_L (A_S rfl (A_Z (by exact (rgErr_zero.2 ⟨hF,by omega,hrb,hel,Classical.not_not.1 h88,fun hk=>Classical.not_not.1 h114⟩).symm))))
  refine esp K27 ?_
  refine esk rfl ?_
  refine A_Q ?_
  exact retR1 (.inr rfl) results28 (A_L (A_S rfl (A_Z (by exact (rgErr_zero.2 ⟨hF,by omega,hrb,hel,Classical.not_not.1 h88,fun hk=>absurd hk h91⟩).symm))))
 refine A_A rfl (A_W (New_no r.F hF) rfl) ?_
 refine emm rfl ?_
 refine A_A rfl (A_T rfl rfl) ?_
 refine A_A rfl (A_T rfl rfl) ?_
 refine emm rfl ?_
 refine enk K2 ?_
 refine esr rfl fun _ K41=>?_
 refine A_A rfl (A_B runUnderlying53 rfl sizeOf29 (by decide) rfl) ?_
 refine A_A rfl (A_I (k:=0) isAgg29 rfl rfl rfl) ?_
 refine A_A rfl (ok_len rfl runUnderlying29 rfl) ?_
 refine emm rfl ?_
 refine enk K41 ?_
 refine A_C fun _ K42=>?_
 refine A_K ?_
 refine esr rfl fun _ K43=>?_
 refine A_A rfl (ok_neq rfl rfl) ?_
 refine emm rfl ?_
 refine enk K43 ?_
 refine ent_condTP rfl (by decide) ?_
 refine esk rfl ?_
 refine A_Q ?_
 exact retR1 (.inr rfl) results28 (A_L (A_S rfl (A_Z (by exact (rgErr_1 hF).symm))))

theorem rSize_ok (r:Rgn) (hR:RgOk r):Ctr Try.prog 29 [aRgn r] (aTup [aInt (rgB r),aInt (rgA r)]):=by
 have hrb:=hR.rng
 unfold rgBad at hrb
 have hln:=hR.len
 have hbd:1<=r.K/\r.K<=r.D/\r.D<=63:=by omega
 have hp1:=mul_small (show 0<=r.K by omega) (by omega) (show 0<=r.D by omega) (by omega)
 have hp2:=mul_small (show 0<=r.K by omega) (by omega) (show 0<=r.K-1 by omega) (by omega)
 have hdv:0<=r.K*(r.K-1)/2/\r.K*(r.K-1)/2<=65536:=⟨Int.ediv_nonneg hp2.1 (by omega),by omega⟩
 refine ctr_of Try.call29 func29 rfl rfl ?_
 intro w O
 refine A_o 0 2 rfl rfl (fun hlen0_2=>?_)
 refine A_o 0 6 rfl rfl (fun hlen0_6=>?_)
 refine esr rfl fun _ K1=>?_
 refine A_y rfl rfl (AllOne.mem ⟨(A_N _),(A_N _),A_j,(A_N _),(A_N _),(A_N _),A_j,trivial⟩) (fun b1_1=>?_)
 refine emm rfl ?_
 refine enk K1 ?_
 refine A_C fun _ K2=>?_
 refine esr rfl fun _ K3=>?_
 refine A_A rfl (A_B runUnderlying53 rfl sizeOf3 (by decide) rfl) ?_
 refine A_A rfl (A_I (k:=0) isAgg3 rfl rfl rfl) ?_
 refine A_A rfl (ok_eql rfl rfl) ?_
 refine enk K3 ?_
 refine A_G rfl (fun h6=>?_) (fun h6=>?_)
 ·refine A_C fun _ K4=>?_
  refine A_w 17 mixed (by kernel_rfl) (by kernel_rfl) (by kernel_rfl) ?_
  refine dw_o rfl (A_B runUnderlying53 rfl sizeOf3 (by decide) rfl) ?_
  refine dw_o rfl (A_I (k:=0) isAgg3 rfl rfl rfl) ?_
  refine dw_o rfl (A_B runUnderlying53 rfl sizeOf3 (by decide) rfl) ?_
  refine dw_o rfl (A_I (k:=0) isAgg3 rfl rfl rfl) ?_
  refine dw_o rfl (ok_mul rfl rfl (by omega) (by omega)) ?_
  refine dw_o rfl (A_B runUnderlying53 rfl sizeOf3 (by decide) rfl) ?_
  refine dw_o rfl (A_I (k:=0) isAgg3 rfl rfl rfl) ?_
  refine dw_o rfl (A_B runUnderlying53 rfl sizeOf3 (by decide) rfl) ?_
  refine dw_o rfl (A_I (k:=0) isAgg3 rfl rfl rfl) ?_
  refine dw_o rfl (ok_sub rfl rfl (by omega) (by omega)) ?_
  refine dw_o rfl (ok_mul rfl rfl (by omega) (by omega)) ?_
  refine dw_o rfl (ok_quo rfl rfl (by omega) (by omega) (by omega)) ?_
  refine dw_o rfl (ok_sub rfl rfl (by omega) (by omega)) ?_
  refine dw_o rfl (A_B runUnderlying53 rfl sizeOf3 (by decide) rfl) ?_
  refine dw_o rfl (A_I (k:=0) isAgg3 rfl rfl rfl) ?_
  refine dw_o rfl (ok_assign rfl) ?_
  refine dw_o rfl (ok_assign rfl) ?_
  refine dw_nil ?_
  refine enk K4 ?_
  refine A_Q ?_
  exact retR2 (.inr rfl) results29 (A_L (A_S rfl (A_Z (by unfold rgB;rw [if_pos h6])))) (A_L (A_S rfl (A_Z (by unfold rgA;rw [if_pos h6]))))
 refine esp K2 ?_
 refine A_C fun _ K5=>?_
 refine A_w 11 mixed (by kernel_rfl) (by kernel_rfl) (by kernel_rfl) ?_
 refine dw_o rfl (A_B runUnderlying53 rfl sizeOf3 (by decide) rfl) ?_
 refine dw_o rfl (A_I (k:=0) isAgg3 rfl rfl rfl) ?_
 refine dw_o rfl (A_B runUnderlying53 rfl sizeOf3 (by decide) rfl) ?_
 refine dw_o rfl (A_I (k:=0) isAgg3 rfl rfl rfl) ?_
 refine dw_o rfl (ok_sub rfl rfl (by omega) (by omega)) ?_
 refine dw_o rfl (ok_mul rfl rfl (by omega) (by omega)) ?_
 refine dw_o rfl (A_B runUnderlying53 rfl sizeOf3 (by decide) rfl) ?_
 refine dw_o rfl (A_I (k:=0) isAgg3 rfl rfl rfl) ?_
 refine dw_o rfl (ok_sub rfl rfl (by omega) (by omega)) ?_
 refine dw_o rfl (ok_assign rfl) ?_
 refine dw_o rfl (ok_assign rfl) ?_
 refine dw_nil ?_
 refine enk K5 ?_
 refine A_Q ?_
 exact retR2 (.inr rfl) results29 (A_L (A_S rfl (A_Z (by unfold rgB;rw [if_neg h6])))) (A_L (A_S rfl (A_Z (by unfold rgA;rw [if_neg h6]))))

theorem sizes_ok (r:Rgn) (hR:RgOk r):Ctr Try.prog 52 [aRgn r] (aTup [aInt (rgB r),aInt (rgA r)]):=by
 have hrb:=hR.rng
 unfold rgBad at hrb
 have hln:=hR.len
 have hbd:1<=r.K/\r.K<=r.D/\r.D<=63:=by omega
 have hp1:=mul_small (show 0<=r.K by omega) (by omega) (show 0<=r.D by omega) (by omega)
 have hp2:=mul_small (show 0<=r.K by omega) (by omega) (show 0<=r.K-1 by omega) (by omega)
 have hdv:0<=r.K*(r.K-1)/2/\r.K*(r.K-1)/2<=65536:=⟨Int.ediv_nonneg hp2.1 (by omega),by omega⟩
 refine ctr_of Try.call52 func52 rfl rfl ?_
 intro w O
 refine A_o 0 2 rfl rfl (fun hlen0_2=>?_)
 refine A_o 0 6 rfl rfl (fun hlen0_6=>?_)
 refine esr rfl fun _ K1=>?_
 refine A_y rfl rfl (AllOne.mem ⟨(A_N _),(A_N _),A_j,(A_N _),(A_N _),(A_N _),A_j,trivial⟩) (fun b1_1=>?_)
 refine emm rfl ?_
 refine enk K1 ?_
 refine A_C fun _ K2=>?_
 refine esr rfl fun _ K3=>?_
 refine A_A rfl (A_B runUnderlying53 rfl sizeOf3 (by decide) rfl) ?_
 refine A_A rfl (A_I (k:=0) isAgg3 rfl rfl rfl) ?_
 refine A_A rfl (ok_eql rfl rfl) ?_
 refine enk K3 ?_
 refine A_G rfl (fun h6=>?_) (fun h6=>?_)
 ·refine A_C fun _ K4=>?_
  refine A_w 11 mixed (by kernel_rfl) (by kernel_rfl) (by kernel_rfl) ?_
  refine dw_o rfl (A_B runUnderlying53 rfl sizeOf3 (by decide) rfl) ?_
  refine dw_o rfl (A_I (k:=0) isAgg3 rfl rfl rfl) ?_
  refine dw_o rfl (A_B runUnderlying53 rfl sizeOf3 (by decide) rfl) ?_
  refine dw_o rfl (A_I (k:=0) isAgg3 rfl rfl rfl) ?_
  refine dw_o rfl (ok_sub rfl rfl (by omega) (by omega)) ?_
  refine dw_o rfl (ok_mul rfl rfl (by omega) (by omega)) ?_
  refine dw_o rfl (A_B runUnderlying53 rfl sizeOf3 (by decide) rfl) ?_
  refine dw_o rfl (A_I (k:=0) isAgg3 rfl rfl rfl) ?_
  refine dw_o rfl (ok_sub rfl rfl (by omega) (by omega)) ?_
  refine dw_o rfl (ok_assign rfl) ?_
  refine dw_o rfl (ok_assign rfl) ?_
  refine dw_nil ?_
  refine enk K4 ?_
  refine A_Q ?_
  exact retR2 (.inr rfl) results52 (A_L (A_S rfl (A_Z (by unfold rgB;rw [if_neg (by omega)])))) (A_L (A_S rfl (A_Z (by unfold rgA;rw [if_neg (by omega)]))))
 refine esp K2 ?_
 refine A_C fun _ K5=>?_
 refine A_w 17 mixed (by kernel_rfl) (by kernel_rfl) (by kernel_rfl) ?_
 refine dw_o rfl (A_B runUnderlying53 rfl sizeOf3 (by decide) rfl) ?_
 refine dw_o rfl (A_I (k:=0) isAgg3 rfl rfl rfl) ?_
 refine dw_o rfl (A_B runUnderlying53 rfl sizeOf3 (by decide) rfl) ?_
 refine dw_o rfl (A_I (k:=0) isAgg3 rfl rfl rfl) ?_
 refine dw_o rfl (ok_mul rfl rfl (by omega) (by omega)) ?_
 refine dw_o rfl (A_B runUnderlying53 rfl sizeOf3 (by decide) rfl) ?_
 refine dw_o rfl (A_I (k:=0) isAgg3 rfl rfl rfl) ?_
 refine dw_o rfl (A_B runUnderlying53 rfl sizeOf3 (by decide) rfl) ?_
 refine dw_o rfl (A_I (k:=0) isAgg3 rfl rfl rfl) ?_
 refine dw_o rfl (ok_sub rfl rfl (by omega) (by omega)) ?_
 refine dw_o rfl (ok_mul rfl rfl (by omega) (by omega)) ?_
 refine dw_o rfl (ok_quo rfl rfl (by omega) (by omega) (by omega)) ?_
 refine dw_o rfl (ok_sub rfl rfl (by omega) (by omega)) ?_
 refine dw_o rfl (A_B runUnderlying53 rfl sizeOf3 (by decide) rfl) ?_
 refine dw_o rfl (A_I (k:=0) isAgg3 rfl rfl rfl) ?_
 refine dw_o rfl (ok_assign rfl) ?_
 refine dw_o rfl (ok_assign rfl) ?_
 refine dw_nil ?_
 refine enk K5 ?_
 refine A_Q ?_
 exact retR2 (.inr rfl) results52 (A_L (A_S rfl (A_Z (by unfold rgB;rw [if_pos (by omega)])))) (A_L (A_S rfl (A_Z (by unfold rgA;rw [if_pos (by omega)]))))

end Go.Proofs.Ytaipghchkamajaa

