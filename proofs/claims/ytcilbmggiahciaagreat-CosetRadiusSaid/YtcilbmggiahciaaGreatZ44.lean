/-
  Facts for the law CosetRadius.
-/
import Derived.Test.YtcilbmggiahciaaGreatZ43
open Go Go.Cw
namespace Go.Proofs.YtcilbmggiahciaaGreat
open Tryz
set_option maxRecDepth 100000
set_option linter.unusedVariables false
set_option linter.unusedSimpArgs false
theorem CosetRadius_walk (q : Clm) (h64 : ∀ t ∈ q.L, -9223372036854775808 ≤ t.1 ∧ t.1 ≤ 9223372036854775807) : Ctr Tryz.prog 5 [aClm q] (aBool true) := by
 refine ctr_of Tryz.call5 func5 rfl rfl ?_
 intro w O
 refine ent_lenC 0 2 rfl rfl (fun hlen0_2 => ?_)
 refine ent_lenC 0 4 rfl rfl (fun hlen0_4 => ?_)
 refine ent_lenC 0 5 rfl rfl (fun hlen0_5 => ?_)
 refine ent_lenC 0 6 rfl rfl (fun hlen0_6 => ?_)
 refine ent_lenC 0 7 rfl rfl (fun hlen0_7 => ?_)
 refine esr rfl fun _ K1 => ?_
 refine ent_boxS rfl rfl (AllOne.mem ⟨(one_int _), (one_int _), one_sl, (one_int _), one_sl, one_sl, one_sl, one_sl, (one_int _), trivial⟩) (fun b1_1 => ?_)
 refine emm rfl ?_
 refine enk K1 ?_
 refine ent_seq fun _ K2 => ?_
 refine esr rfl fun _ K3 => ?_
 refine ent_o rfl (ok_fieldAddrEx runUnderlying30 rfl sizeOf27 (by decide) rfl) ?_
 refine ent_o rfl (ok_loadBS (k := 0) ti27 rfl rfl rfl) ?_
 refine ent_o rfl (ok_call (small_ok q.C) rfl) ?_
 refine ent_o rfl (ok_notD rfl) ?_
 refine enk K3 ?_
 refine ent_condD rfl (fun h14 => ?_) (fun h14 => ?_)
 ·refine esr rfl fun _ K4 => ?_
  refine ent_o rfl (ok_call alive_ok rfl) ?_
  refine emm rfl ?_
  refine enk K4 ?_
  refine ent_ret ?_
  exact retR1 (.inr rfl) results5 (resr_tmp (res_cv rfl (cv_bool rfl)))
 refine esp K2 ?_
 refine esr rfl fun _ K5 => ?_
 refine ent_o rfl (ok_fieldAddrEx runUnderlying30 rfl sizeOf27 (by decide) rfl) ?_
 refine ent_o rfl (ok_loadBS (k := 0) ti27 rfl rfl rfl) ?_
 refine ent_o rfl (ok_fieldAddrEx runUnderlying30 rfl sizeOf28 (by decide) rfl) ?_
 refine ent_o rfl (ok_loadB (k := 0) isAgg28 rfl rfl rfl) ?_
 refine ent_o rfl (ok_call (cRad_ok q.C q.L ‹_›) rfl) ?_
 refine emm rfl ?_
 refine ent_o rfl (ok_extract rfl rfl) ?_
 refine ent_o rfl (ok_extract rfl rfl) ?_
 refine ent_o rfl (ok_extract rfl rfl) ?_
 refine emm rfl ?_
 refine enk K5 ?_
 refine esr rfl fun _ K6 => ?_
 refine ent_o rfl (ok_fieldAddrEx runUnderlying30 rfl sizeOf27 (by decide) rfl) ?_
 refine ent_o rfl (ok_loadBS (k := 0) ti27 rfl rfl rfl) ?_
 refine ent_o rfl (ok_fieldAddrEx runUnderlying30 rfl sizeOf28 (by decide) rfl) ?_
 refine ent_o rfl (ok_loadB (k := 0) isAgg28 rfl rfl rfl) ?_
 refine ent_o rfl (ok_call (rChk28_ok q.C q.L) rfl) ?_
 refine emm rfl ?_
 refine enk K6 ?_
 refine ent_seq fun _ K7 => ?_
 refine esr rfl fun _ K8 => ?_
 refine ent_o rfl (ok_neq rfl rfl) ?_
 refine emm rfl ?_
 refine ent_guardXT rfl rfl rfl rfl (decide_eq_false (fun hq => hq rfl)) ?_
 refine ent_o rfl (ok_call alive_ok rfl) ?_
 refine ent_guardXT rfl rfl rfl rfl (decide_eq_false (fun hq => hq rfl)) ?_
 refine ent_o rfl (ok_not rfl) ?_
 refine ent_o rfl (ok_pickF rfl (decide_eq_false (fun hq => hq rfl)) rfl) ?_
 refine enk K8 ?_
 refine ent_condF rfl ?_
 refine esp K7 ?_
 refine ent_seq fun _ K9 => ?_
 refine esr rfl fun _ K10 => ?_
 refine ent_o rfl (ok_neq rfl rfl) ?_
 refine enk K10 ?_
 refine ent_condD rfl (fun h38 => ?_) (fun h38 => ?_)
 ·have hrv : radV q.C q.L = 0 := if_neg h38
  have hrw : radW q.C q.L = [] := if_neg h38
  refine ent_seq fun _ K11 => ?_
  refine ent_cut (⟨[(2, aBool (decide (((radV q.C q.L) = 0) ∧ ((↑(radW q.C q.L).length : Int) = 0))))], [oBox b1_1 30 [aInt q.C.F.P, aInt q.C.F.M, aSl 1 false aInt q.C.F.mod, aInt q.C.N, aSl 1 false aInts q.C.Gen, aSl 3 true aLab q.L, aSl 1 false aInt q.Y, aSl 1 false aInt q.M, aInt q.S]]⟩) ?_ ?_
  ·refine ent_region ?_
   refine emm rfl ?_
   refine ent_o rfl (ok_eql rfl rfl) ?_
   refine emm rfl ?_
   refine ent_guardXDt rfl rfl rfl rfl (fun hg41 => ?_) (fun hg41 => ?_)
   ·refine emm rfl ?_
    refine ent_guardXT rfl rfl rfl rfl (decide_eq_true hg41) ?_
    refine ent_o rfl (ok_len rfl runUnderlying22 rfl) ?_
    refine ent_guardXT rfl rfl rfl rfl (decide_eq_true hg41) ?_
    refine ent_o rfl (ok_eql rfl rfl) ?_
    refine ent_o rfl (ok_pickT rfl (decide_eq_true hg41) rfl) ?_
    refine emm rfl ?_
    refine ent_nil ?_
    exact ent_rep ⟨slot_bool (dq_Q ((and_iff_right hg41).trans Iff.rfl)), trivial⟩ rfl
   refine ent_guardXF rfl rfl rfl rfl (decide_eq_false hg41) ?_
   refine ent_guardXF rfl rfl rfl rfl (decide_eq_false hg41) ?_
   refine ent_o rfl (ok_pickF rfl (decide_eq_false hg41) rfl) ?_
   refine emm rfl ?_
   refine ent_nil ?_
   exact ent_rep ⟨slot_bool (dq_F rfl (fun h => hg41 h.1)), trivial⟩ rfl
  refine ent_k K11 ?_
  refine ent_ret ?_
  exact retR1 (.inr rfl) results5 (resr_tmp (res_cv rfl (cv_bool (by rw [hrv, hrw]; simp))))
 have h0 := Classical.not_not.1 h38
 have hcz := chk_zero h0
 have hkk := csE_zero.1 hcz.1
 have hlen := hcz.2.len
 have hp1 := pow_pos_of q.C.F.q hkk.1.q2 (dua q.C).Gen.length
 have hct := hkk.2
 have hdb := dpI_bd q.L q.L.length
 have hrv : radV q.C q.L = (lbl q.L (dpI q.L q.L.length)).1 := if_pos h0
 have hrw : radW q.C q.L = leadW q.C q.L (dpI q.L q.L.length) := if_pos h0
 have hsr := fun hw => syV_rng (c := q.C) (y := q.Y) hw
 have hmx := fun hw => dpI_max q.L q.L.length (hsr hw).1 (by have := (hsr hw).2; omega)
 refine esp K9 ?_
 refine esr rfl fun _ K12 => ?_
 refine ent_o rfl (ok_fieldAddrEx runUnderlying30 rfl sizeOf28 (by decide) rfl) ?_
 refine ent_o rfl (ok_loadB (k := 0) isAgg28 rfl rfl rfl) ?_
 refine ent_o rfl (ok_call (rDeep_ok q.L (by omega) (by omega)) rfl) ?_
 refine emm rfl ?_
 refine ent_o rfl (ok_extract rfl rfl) ?_
 refine ent_o rfl (ok_extract rfl rfl) ?_
 refine emm rfl ?_
 refine enk K12 ?_
 refine ent_seq fun _ K13 => ?_
 refine ent_seq fun _ K14 => ?_
 refine ent_cut (⟨[(1, aEx (.pointer (some ⟨b1_1, 0, none⟩))), (3, aInt (radV q.C q.L)), (65, aBool (decide (((radV q.C q.L) ≠ ((lbl q.L (dpI q.L q.L.length)).1)) ∨ (¬ ((radW q.C q.L) = (leadW q.C q.L (dpI q.L q.L.length)))))))], [oBox b1_1 30 [aInt q.C.F.P, aInt q.C.F.M, aSl 1 false aInt q.C.F.mod, aInt q.C.N, aSl 1 false aInts q.C.Gen, aSl 3 true aLab q.L, aSl 1 false aInt q.Y, aSl 1 false aInt q.M, aInt q.S]]⟩) ?_ ?_
 ·refine ent_region ?_
  refine emm rfl ?_
  refine ent_o rfl (ok_neq rfl rfl) ?_
  refine emm rfl ?_
  refine ent_guardXDf rfl rfl rfl rfl (fun hg55 => ?_) (fun hg55 => ?_)
  ·refine emm rfl ?_
   refine ent_guardXT rfl rfl rfl rfl (decide_eq_false hg55) ?_
   refine ent_o rfl (ok_fieldAddrEx runUnderlying30 rfl sizeOf27 (by decide) rfl) ?_
   refine ent_guardXT rfl rfl rfl rfl (decide_eq_false hg55) ?_
   refine ent_o rfl (ok_loadBS (k := 0) ti27 rfl rfl rfl) ?_
   refine ent_guardXT rfl rfl rfl rfl (decide_eq_false hg55) ?_
   refine ent_o rfl (ok_fieldAddrEx runUnderlying30 rfl sizeOf28 (by decide) rfl) ?_
   refine ent_guardXT rfl rfl rfl rfl (decide_eq_false hg55) ?_
   refine ent_o rfl (ok_loadB (k := 0) isAgg28 rfl rfl rfl) ?_
   refine ent_guardXT rfl rfl rfl rfl (decide_eq_false hg55) ?_
   refine emm rfl ?_
   refine ent_guardXT rfl rfl rfl rfl (decide_eq_false hg55) ?_
   refine ent_o rfl (ok_call (rLeader_ok q.C q.L (dpI q.L q.L.length) hcz.1 hcz.2 (by omega) (by omega)) rfl) ?_
   refine ent_guardXT rfl rfl rfl rfl (decide_eq_false hg55) ?_
   refine ent_o rfl (ok_call (rSame_ok (radW q.C q.L) (leadW q.C q.L (dpI q.L q.L.length))) rfl) ?_
   refine ent_guardXT rfl rfl rfl rfl (decide_eq_false hg55) ?_
   refine ent_o rfl (ok_notD rfl) ?_
   refine ent_o rfl (ok_pickF rfl (decide_eq_false hg55) rfl) ?_
   refine ent_nil ?_
   exact ent_rep ⟨rfl, rfl, slot_bool (dq_Q ((or_iff_right hg55).trans Iff.rfl)), trivial⟩ rfl
  refine ent_guardXF rfl rfl rfl rfl (decide_eq_true hg55) ?_
  refine ent_guardXF rfl rfl rfl rfl (decide_eq_true hg55) ?_
  refine ent_guardXF rfl rfl rfl rfl (decide_eq_true hg55) ?_
  refine ent_guardXF rfl rfl rfl rfl (decide_eq_true hg55) ?_
  refine ent_guardXF rfl rfl rfl rfl (decide_eq_true hg55) ?_
  refine ent_guardXF rfl rfl rfl rfl (decide_eq_true hg55) ?_
  refine ent_guardXF rfl rfl rfl rfl (decide_eq_true hg55) ?_
  refine ent_guardXF rfl rfl rfl rfl (decide_eq_true hg55) ?_
  refine ent_o rfl (ok_pickT rfl (decide_eq_true hg55) rfl) ?_
  refine ent_nil ?_
  exact ent_rep ⟨rfl, rfl, slot_bool (dq_T rfl (Or.inl hg55)), trivial⟩ rfl
 refine ent_k K14 ?_
 refine ent_condD rfl (fun h65 => ?_) (fun h65 => ?_)
 ·refine absurd h65 ?_; rw [hrv, hrw]; simp
 refine esp K13 ?_
 refine esr rfl fun _ K15 => ?_
 refine ent_o rfl (ok_fieldAddrEx runUnderlying30 rfl sizeOf27 (by decide) rfl) ?_
 refine ent_o rfl (ok_loadBS (k := 0) ti27 rfl rfl rfl) ?_
 refine ent_o rfl (ok_fieldAddrEx runUnderlying30 rfl sizeOf22 (by decide) rfl) ?_
 refine ent_o rfl (ok_loadB (k := 0) isAgg22 rfl rfl rfl) ?_
 refine ent_o rfl (ok_call (rSyn28_ok q.C q.Y) rfl) ?_
 refine emm rfl ?_
 refine ent_o rfl (ok_extract rfl rfl) ?_
 refine ent_o rfl (ok_extract rfl rfl) ?_
 refine emm rfl ?_
 refine enk K15 ?_
 refine ent_seq fun _ K16 => ?_
 refine ent_cut (⟨[(2, aBool (decide (((wsE q.C q.Y) ≠ 0) ∨ (((ix (0, 0, 0) q.L (syV q.C q.Y)).1) ≤ (radV q.C q.L)))))], [oBox b1_1 30 [aInt q.C.F.P, aInt q.C.F.M, aSl 1 false aInt q.C.F.mod, aInt q.C.N, aSl 1 false aInts q.C.Gen, aSl 3 true aLab q.L, aSl 1 false aInt q.Y, aSl 1 false aInt q.M, aInt q.S]]⟩) ?_ ?_
 ·refine ent_region ?_
  refine emm rfl ?_
  refine ent_o rfl (ok_neq rfl rfl) ?_
  refine emm rfl ?_
  refine ent_guardXDf rfl rfl rfl rfl (fun hg76 => ?_) (fun hg76 => ?_)
  ·refine ent_o rfl (ok_fieldAddrEx runUnderlying30 rfl sizeOf28 (by decide) rfl) ?_
   refine ent_guardXT rfl rfl rfl rfl (decide_eq_false hg76) ?_
   refine ent_o rfl (ok_loadB (k := 0) isAgg28 rfl rfl rfl) ?_
   refine ent_guardXT rfl rfl rfl rfl (decide_eq_false hg76) ?_
   refine emm rfl ?_
   refine ent_guardXT rfl rfl rfl rfl (decide_eq_false hg76) ?_
   refine ent_o rfl (ok_index (0, 0, 0) sl28 rfl rfl (by omega) (by omega)) ?_
   refine ent_guardXT rfl rfl rfl rfl (decide_eq_false hg76) ?_
   refine ent_o rfl (ok_fieldAddr1 runUnderlying45 rfl sizeOf3 rfl rfl) ?_
   refine ent_guardXT rfl rfl rfl rfl (decide_eq_false hg76) ?_
   refine ent_o rfl (ok_load ti3 rfl) ?_
   refine ent_guardXT rfl rfl rfl rfl (decide_eq_false hg76) ?_
   refine emm rfl ?_
   refine ent_guardXT rfl rfl rfl rfl (decide_eq_false hg76) ?_
   refine ent_o rfl (ok_leq rfl rfl) ?_
   refine ent_o rfl (ok_pickF rfl (decide_eq_false hg76) rfl) ?_
   refine emm rfl ?_
   refine ent_nil ?_
   exact ent_rep ⟨slot_bool (dq_Q ((or_iff_right hg76).trans Iff.rfl)), trivial⟩ rfl
  refine ent_guardXF rfl rfl rfl rfl (decide_eq_true hg76) ?_
  refine ent_guardXF rfl rfl rfl rfl (decide_eq_true hg76) ?_
  refine ent_guardXF rfl rfl rfl rfl (decide_eq_true hg76) ?_
  refine ent_guardXF rfl rfl rfl rfl (decide_eq_true hg76) ?_
  refine ent_guardXF rfl rfl rfl rfl (decide_eq_true hg76) ?_
  refine ent_guardXF rfl rfl rfl rfl (decide_eq_true hg76) ?_
  refine ent_guardXF rfl rfl rfl rfl (decide_eq_true hg76) ?_
  refine ent_o rfl (ok_pickT rfl (decide_eq_true hg76) rfl) ?_
  refine emm rfl ?_
  refine ent_nil ?_
  exact ent_rep ⟨slot_bool (dq_T rfl (Or.inl hg76)), trivial⟩ rfl
 refine ent_k K16 ?_
 refine ent_ret ?_
 exact retR1 (.inr rfl) results5 (resr_tmp (res_cv rfl (cv_bool (by simp only [decide_eq_true_eq]; rw [hrv]; by_cases hw : wsE q.C q.Y = 0; exact .inr (hmx hw); exact .inl hw))))
end Go.Proofs.YtcilbmggiahciaaGreat
