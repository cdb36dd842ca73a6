/-
  Facts for the law CosetLeaders.
-/
import Derived.Test.YtcilbmggiahciaaGreatZ44
open Go Go.Cw
namespace Go.Proofs.YtcilbmggiahciaaGreat
open Tryz
set_option maxRecDepth 100000
set_option linter.unusedVariables false
set_option linter.unusedSimpArgs false
theorem CosetLeaders_walk (q : Clm) (h64 : ∀ t ∈ q.L, -9223372036854775808 ≤ t.1 ∧ t.1 ≤ 9223372036854775807) : Ctr Tryz.prog 4 [aClm q] (aBool true) := by
 refine ctr_of Tryz.call4 func4 rfl rfl ?_
 intro w O
 refine ent_lenC 0 2 rfl rfl (fun hlen0_2 => ?_)
 refine ent_lenC 0 4 rfl rfl (fun hlen0_4 => ?_)
 refine ent_lenC 0 5 rfl rfl (fun hlen0_5 => ?_)
 refine ent_lenC 0 6 rfl rfl (fun hlen0_6 => ?_)
 refine ent_lenC 0 7 rfl rfl (fun hlen0_7 => ?_)
 refine esr rfl fun _ K1 => ?_
 refine ent_boxS rfl rfl (AllOne.mem ⟨(one_int _), (one_int _), one_sl, (one_int _), one_sl, one_sl, one_sl, one_sl, (one_int _), trivial⟩) (fun b1_1 => ?_)
 refine emm rfl ?_
 refine enk K1 ?_
 refine ent_seq fun _ K2 => ?_
 refine esr rfl fun _ K3 => ?_
 refine ent_o rfl (ok_fieldAddrEx runUnderlying30 rfl sizeOf27 (by decide) rfl) ?_
 refine ent_o rfl (ok_loadBS (k := 0) ti27 rfl rfl rfl) ?_
 refine ent_o rfl (ok_call (small_ok q.C) rfl) ?_
 refine ent_o rfl (ok_notD rfl) ?_
 refine enk K3 ?_
 refine ent_condD rfl (fun h11 => ?_) (fun h11 => ?_)
 ·refine esr rfl fun _ K4 => ?_
  refine ent_o rfl (ok_call alive_ok rfl) ?_
  refine emm rfl ?_
  refine enk K4 ?_
  refine ent_ret ?_
  exact retR1 (.inr rfl) results4 (resr_tmp (res_cv rfl (cv_bool rfl)))
 refine esp K2 ?_
 refine esr rfl fun _ K5 => ?_
 refine ent_o rfl (ok_fieldAddrEx runUnderlying30 rfl sizeOf27 (by decide) rfl) ?_
 refine ent_o rfl (ok_loadBS (k := 0) ti27 rfl rfl rfl) ?_
 refine ent_o rfl (ok_fieldAddrEx runUnderlying30 rfl sizeOf28 (by decide) rfl) ?_
 refine ent_o rfl (ok_loadB (k := 0) isAgg28 rfl rfl rfl) ?_
 refine ent_o rfl (ok_fieldAddrEx runUnderlying30 rfl sizeOf3 (by decide) rfl) ?_
 refine ent_o rfl (ok_loadB (k := 0) isAgg3 rfl rfl rfl) ?_
 refine ent_o rfl (ok_call (cLead_ok q.C q.L q.S ‹_›) rfl) ?_
 refine emm rfl ?_
 refine ent_o rfl (ok_extract rfl rfl) ?_
 refine ent_o rfl (ok_extract rfl rfl) ?_
 refine emm rfl ?_
 refine enk K5 ?_
 refine esr rfl fun _ K6 => ?_
 refine ent_o rfl (ok_fieldAddrEx runUnderlying30 rfl sizeOf27 (by decide) rfl) ?_
 refine ent_o rfl (ok_loadBS (k := 0) ti27 rfl rfl rfl) ?_
 refine ent_o rfl (ok_fieldAddrEx runUnderlying30 rfl sizeOf28 (by decide) rfl) ?_
 refine ent_o rfl (ok_loadB (k := 0) isAgg28 rfl rfl rfl) ?_
 refine ent_o rfl (ok_call (rChk28_ok q.C q.L) rfl) ?_
 refine emm rfl ?_
 refine enk K6 ?_
 refine ent_seq fun _ K7 => ?_
 refine ent_seq fun _ K8 => ?_
 refine ent_cut (⟨[(1, aEx (.pointer (some ⟨b1_1, 0, none⟩))), (3, aSl 1 false aInt (ldW q.C q.L q.S)), (4, aInt (ldE q.C q.L q.S)), (5, aInt (chkL q.C q.L)), (42, aBool (decide (((chkL q.C q.L) = 0) ∧ ((q.S < 0) ∨ ((↑q.L.length : Int) ≤ q.S)))))], [oBox b1_1 30 [aInt q.C.F.P, aInt q.C.F.M, aSl 1 false aInt q.C.F.mod, aInt q.C.N, aSl 1 false aInts q.C.Gen, aSl 3 true aLab q.L, aSl 1 false aInt q.Y, aSl 1 false aInt q.M, aInt q.S]]⟩) ?_ ?_
 ·refine ent_region ?_
  refine emm rfl ?_
  refine ent_o rfl (ok_eql rfl rfl) ?_
  refine emm rfl ?_
  refine ent_guardXDt rfl rfl rfl rfl (fun hg30 => ?_) (fun hg30 => ?_)
  ·refine ent_o rfl (ok_fieldAddrEx runUnderlying30 rfl sizeOf3 (by decide) rfl) ?_
   refine ent_guardXT rfl rfl rfl rfl (decide_eq_true hg30) ?_
   refine ent_o rfl (ok_loadB (k := 0) isAgg3 rfl rfl rfl) ?_
   refine ent_guardXT rfl rfl rfl rfl (decide_eq_true hg30) ?_
   refine ent_o rfl (ok_lss rfl rfl) ?_
   refine ent_guardXT rfl rfl rfl rfl (decide_eq_true hg30) ?_
   refine emm rfl ?_
   refine ent_guardXDf rfl rfl rfl rfl (fun hg34 => ?_) (fun hg34 => ?_)
   ·refine ent_o rfl (ok_fieldAddrEx runUnderlying30 rfl sizeOf3 (by decide) rfl) ?_
    refine ent_guardXT rfl rfl rfl rfl (decide_eq_false hg34) ?_
    refine ent_o rfl (ok_loadB (k := 0) isAgg3 rfl rfl rfl) ?_
    refine ent_guardXT rfl rfl rfl rfl (decide_eq_false hg34) ?_
    refine ent_o rfl (ok_fieldAddrEx runUnderlying30 rfl sizeOf28 (by decide) rfl) ?_
    refine ent_guardXT rfl rfl rfl rfl (decide_eq_false hg34) ?_
    refine ent_o rfl (ok_loadB (k := 0) isAgg28 rfl rfl rfl) ?_
    refine ent_guardXT rfl rfl rfl rfl (decide_eq_false hg34) ?_
    refine ent_o rfl (ok_len rfl runUnderlying28 rfl) ?_
    refine ent_guardXT rfl rfl rfl rfl (decide_eq_false hg34) ?_
    refine ent_o rfl (ok_geq rfl rfl) ?_
    refine ent_guardXT rfl rfl rfl rfl (decide_eq_true hg30) ?_
    refine ent_o rfl (ok_pickF rfl (decide_eq_false hg34) rfl) ?_
    refine ent_o rfl (ok_pickT rfl (decide_eq_true hg30) rfl) ?_
    refine ent_nil ?_
    exact ent_rep ⟨rfl, rfl, rfl, rfl, slot_bool (dq_Q ((and_iff_right hg30).trans ((or_iff_right hg34).trans Iff.rfl))), trivial⟩ rfl
   refine ent_guardXF rfl rfl rfl rfl (decide_eq_true hg34) ?_
   refine ent_guardXF rfl rfl rfl rfl (decide_eq_true hg34) ?_
   refine ent_guardXF rfl rfl rfl rfl (decide_eq_true hg34) ?_
   refine ent_guardXF rfl rfl rfl rfl (decide_eq_true hg34) ?_
   refine ent_guardXF rfl rfl rfl rfl (decide_eq_true hg34) ?_
   refine ent_guardXT rfl rfl rfl rfl (decide_eq_true hg30) ?_
   refine ent_o rfl (ok_pickT rfl (decide_eq_true hg34) rfl) ?_
   refine ent_o rfl (ok_pickT rfl (decide_eq_true hg30) rfl) ?_
   refine ent_nil ?_
   exact ent_rep ⟨rfl, rfl, rfl, rfl, slot_bool (dq_T rfl ⟨hg30, (Or.inl hg34)⟩), trivial⟩ rfl
  refine ent_guardXF rfl rfl rfl rfl (decide_eq_false hg30) ?_
  refine ent_guardXF rfl rfl rfl rfl (decide_eq_false hg30) ?_
  refine ent_guardXF rfl rfl rfl rfl (decide_eq_false hg30) ?_
  refine ent_guardU rfl rfl rfl rfl ?_
  refine ent_guardU rfl rfl rfl rfl ?_
  refine ent_guardU rfl rfl rfl rfl ?_
  refine ent_guardU rfl rfl rfl rfl ?_
  refine ent_guardU rfl rfl rfl rfl ?_
  refine ent_guardU rfl rfl rfl rfl ?_
  refine ent_guardXF rfl rfl rfl rfl (decide_eq_false hg30) ?_
  refine ent_o rfl (ok_pickF rfl (decide_eq_false hg30) rfl) ?_
  refine ent_nil ?_
  exact ent_rep ⟨rfl, rfl, rfl, rfl, slot_bool (dq_F rfl (fun h => hg30 h.1)), trivial⟩ rfl
 refine ent_k K8 ?_
 refine ent_cut (⟨[(1, aEx (.pointer (some ⟨b1_1, 0, none⟩))), (3, aSl 1 false aInt (ldW q.C q.L q.S)), (4, aInt (ldE q.C q.L q.S)), (5, aInt (ldE q.C q.L q.S))], [oBox b1_1 30 [aInt q.C.F.P, aInt q.C.F.M, aSl 1 false aInt q.C.F.mod, aInt q.C.N, aSl 1 false aInts q.C.Gen, aSl 3 true aLab q.L, aSl 1 false aInt q.Y, aSl 1 false aInt q.M, aInt q.S]]⟩) ?_ ?_
 ·refine ent_condD rfl (fun h42 => ?_) (fun h42 => ?_)
  ·refine ent_region ?_
   refine emm rfl ?_
   refine ent_nil ?_
   exact ent_rep ⟨rfl, rfl, rfl, slot_av (av_int (show 6 = ldE q.C q.L q.S by exact (ldE_six h42).symm)), trivial⟩ rfl
  refine ent_skip ?_
  exact ent_rep ⟨rfl, rfl, rfl, slot_av (av_int (show chkL q.C q.L = ldE q.C q.L q.S by exact (ldE_else h42).symm)), trivial⟩ rfl
 refine ent_k K7 ?_
 refine ent_seq fun _ K9 => ?_
 refine esr rfl fun _ K10 => ?_
 refine ent_o rfl (ok_neq rfl rfl) ?_
 refine emm rfl ?_
 refine ent_guardXT rfl rfl rfl rfl (decide_eq_false (fun hq => hq rfl)) ?_
 refine ent_o rfl (ok_call alive_ok rfl) ?_
 refine ent_guardXT rfl rfl rfl rfl (decide_eq_false (fun hq => hq rfl)) ?_
 refine ent_o rfl (ok_not rfl) ?_
 refine ent_o rfl (ok_pickF rfl (decide_eq_false (fun hq => hq rfl)) rfl) ?_
 refine enk K10 ?_
 refine ent_condF rfl ?_
 refine esp K9 ?_
 refine ent_seq fun _ K11 => ?_
 refine esr rfl fun _ K12 => ?_
 refine ent_o rfl (ok_neq rfl rfl) ?_
 refine enk K12 ?_
 refine ent_condD rfl (fun h51 => ?_) (fun h51 => ?_)
 ·have hlw : ldW q.C q.L q.S = [] := if_neg h51
  refine esr rfl fun _ K13 => ?_
  refine ent_o rfl (ok_len rfl runUnderlying22 rfl) ?_
  refine ent_o rfl (ok_eql rfl rfl) ?_
  refine emm rfl ?_
  refine enk K13 ?_
  refine ent_ret ?_
  exact retR1 (.inr rfl) results4 (resr_tmp (res_cv rfl (cv_bool (by rw [hlw]; rfl))))
 have h0 := Classical.not_not.1 h51
 have hz := ldE_zero h0
 have hcz := chk_zero hz.1
 have hkk := csE_zero.1 hcz.1
 have hlf := lead_facts hkk.1 hcz.2 hcz.1 hz.2.1 hz.2.2
 have hlw : ldW q.C q.L q.S = leadW q.C q.L q.S := if_pos h0
 have hlen := hcz.2.len
 have hct := hkk.2
 refine esp K11 ?_
 refine esr rfl fun _ K14 => ?_
 refine ent_o rfl (ok_fieldAddrEx runUnderlying30 rfl sizeOf27 (by decide) rfl) ?_
 refine ent_o rfl (ok_loadBS (k := 0) ti27 rfl rfl rfl) ?_
 refine emm rfl ?_
 refine ent_o rfl (ok_call (rSyn28_ok q.C (ldW q.C q.L q.S)) rfl) ?_
 refine emm rfl ?_
 refine ent_o rfl (ok_extract rfl rfl) ?_
 refine ent_o rfl (ok_extract rfl rfl) ?_
 refine emm rfl ?_
 refine enk K14 ?_
 refine ent_seq fun _ K15 => ?_
 refine ent_cut (⟨[(2, aBool (decide (((((wsE q.C (ldW q.C q.L q.S)) = 0) ∧ ((syV q.C (ldW q.C q.L q.S)) = q.S)) ∧ ((wt (ldW q.C q.L q.S)) = ((ix (0, 0, 0) q.L q.S).1))) ∧ ((ldW q.C q.L q.S) = (leadW q.C q.L q.S)))))], [oBox b1_1 30 [aInt q.C.F.P, aInt q.C.F.M, aSl 1 false aInt q.C.F.mod, aInt q.C.N, aSl 1 false aInts q.C.Gen, aSl 3 true aLab q.L, aSl 1 false aInt q.Y, aSl 1 false aInt q.M, aInt q.S]]⟩) ?_ ?_
 ·refine ent_draw 35 mixed (by kernel_rfl) (drawQ_F (by kernel_rfl)) (by kernel_rfl) ?_
  refine dw_o rfl (ok_move rfl) ?_
  refine dw_o rfl (ok_eql rfl rfl) ?_
  refine dw_o rfl (ok_move rfl) ?_
  refine dw_guardDt rfl rfl rfl rfl (fun hg64 => ?_) (fun hg64 => ?_)
  ·refine dw_o rfl (ok_move rfl) ?_
   refine dw_guardT rfl rfl rfl rfl (decide_eq_true hg64) ?_
   refine dw_o rfl (ok_fieldAddrEx runUnderlying30 rfl sizeOf3 (by decide) rfl) ?_
   refine dw_guardT rfl rfl rfl rfl (decide_eq_true hg64) ?_
   refine dw_o rfl (ok_loadB (k := 0) isAgg3 rfl rfl rfl) ?_
   refine dw_guardT rfl rfl rfl rfl (decide_eq_true hg64) ?_
   refine dw_o rfl (ok_eql rfl rfl) ?_
   refine dw_o rfl (ok_pickT rfl (decide_eq_true hg64) rfl) ?_
   refine dw_o rfl (ok_move rfl) ?_
   refine dw_guardDt rfl rfl rfl rfl (fun hg70 => ?_) (fun hg70 => ?_)
   ·refine dw_o rfl (ok_fieldAddrEx runUnderlying30 rfl sizeOf27 (by decide) rfl) ?_
    refine dw_guardT rfl rfl rfl rfl (decide_eq_true hg70) ?_
    refine dw_o rfl (ok_fieldAddrEx runUnderlying27 rfl sizeOf24 (by decide) rfl) ?_
    refine dw_guardT rfl rfl rfl rfl (decide_eq_true hg70) ?_
    refine dw_o rfl (ok_loadBS (k := 0) ti24 rfl rfl rfl) ?_
    refine dw_guardT rfl rfl rfl rfl (decide_eq_true hg70) ?_
    refine dw_o rfl (ok_move rfl) ?_
    refine dw_guardT rfl rfl rfl rfl (decide_eq_true hg70) ?_
    refine dw_o rfl (ok_call (rWeight_ok q.C.F (ldW q.C q.L q.S) (by rw [hlw]; have := hlf.2.2.2.2; have := hkk.1.n64; omega) (by rw [hlw]; exact hlf.2.2.2.1)) rfl) ?_
    refine dw_guardT rfl rfl rfl rfl (decide_eq_true hg70) ?_
    refine dw_o rfl (ok_fieldAddrEx runUnderlying30 rfl sizeOf28 (by decide) rfl) ?_
    refine dw_guardT rfl rfl rfl rfl (decide_eq_true hg70) ?_
    refine dw_o rfl (ok_loadB (k := 0) isAgg28 rfl rfl rfl) ?_
    refine dw_guardT rfl rfl rfl rfl (decide_eq_true hg70) ?_
    refine dw_o rfl (ok_fieldAddrEx runUnderlying30 rfl sizeOf3 (by decide) rfl) ?_
    refine dw_guardT rfl rfl rfl rfl (decide_eq_true hg70) ?_
    refine dw_o rfl (ok_loadB (k := 0) isAgg3 rfl rfl rfl) ?_
    refine dw_guardT rfl rfl rfl rfl (decide_eq_true hg70) ?_
    refine dw_o rfl (ok_index (0, 0, 0) sl28 rfl rfl (by omega) (by omega)) ?_
    refine dw_guardT rfl rfl rfl rfl (decide_eq_true hg70) ?_
    refine dw_o rfl (ok_fieldAddr1 runUnderlying45 rfl sizeOf3 rfl rfl) ?_
    refine dw_guardT rfl rfl rfl rfl (decide_eq_true hg70) ?_
    refine dw_o rfl (ok_load ti3 rfl) ?_
    refine dw_guardT rfl rfl rfl rfl (decide_eq_true hg70) ?_
    refine dw_o rfl (ok_eql rfl rfl) ?_
    refine dw_o rfl (ok_pickT rfl (decide_eq_true hg70) rfl) ?_
    refine dw_o rfl (ok_move rfl) ?_
    refine dw_guardDt rfl rfl rfl rfl (fun hg85 => ?_) (fun hg85 => ?_)
    ·refine dw_o rfl (ok_move rfl) ?_
     refine dw_guardT rfl rfl rfl rfl (decide_eq_true hg85) ?_
     refine dw_o rfl (ok_fieldAddrEx runUnderlying30 rfl sizeOf27 (by decide) rfl) ?_
     refine dw_guardT rfl rfl rfl rfl (decide_eq_true hg85) ?_
     refine dw_o rfl (ok_loadBS (k := 0) ti27 rfl rfl rfl) ?_
     refine dw_guardT rfl rfl rfl rfl (decide_eq_true hg85) ?_
     refine dw_o rfl (ok_fieldAddrEx runUnderlying30 rfl sizeOf28 (by decide) rfl) ?_
     refine dw_guardT rfl rfl rfl rfl (decide_eq_true hg85) ?_
     refine dw_o rfl (ok_loadB (k := 0) isAgg28 rfl rfl rfl) ?_
     refine dw_guardT rfl rfl rfl rfl (decide_eq_true hg85) ?_
     refine dw_o rfl (ok_fieldAddrEx runUnderlying30 rfl sizeOf3 (by decide) rfl) ?_
     refine dw_guardT rfl rfl rfl rfl (decide_eq_true hg85) ?_
     refine dw_o rfl (ok_loadB (k := 0) isAgg3 rfl rfl rfl) ?_
     refine dw_guardT rfl rfl rfl rfl (decide_eq_true hg85) ?_
     refine dw_o rfl (ok_call (rLeader_ok q.C q.L q.S hcz.1 hcz.2 (by omega) (by omega)) rfl) ?_
     refine dw_guardT rfl rfl rfl rfl (decide_eq_true hg85) ?_
     refine dw_o rfl (ok_call (rSame_ok (ldW q.C q.L q.S) (leadW q.C q.L q.S)) rfl) ?_
     refine dw_o rfl (ok_pickT rfl (decide_eq_true hg85) rfl) ?_
     refine dw_o rfl (ok_assign rfl) ?_
     refine dw_nil ?_
     refine ent_nil ?_
     exact ent_rep ⟨slot_bool (dq_Q ((and_iff_right ⟨⟨hg64, hg70⟩, hg85⟩).trans Iff.rfl)), trivial⟩ rfl
    refine dw_guardF rfl rfl rfl rfl (decide_eq_false hg85) ?_
    refine dw_guardF rfl rfl rfl rfl (decide_eq_false hg85) ?_
    refine dw_guardF rfl rfl rfl rfl (decide_eq_false hg85) ?_
    refine dw_guardF rfl rfl rfl rfl (decide_eq_false hg85) ?_
    refine dw_guardF rfl rfl rfl rfl (decide_eq_false hg85) ?_
    refine dw_guardF rfl rfl rfl rfl (decide_eq_false hg85) ?_
    refine dw_guardF rfl rfl rfl rfl (decide_eq_false hg85) ?_
    refine dw_guardF rfl rfl rfl rfl (decide_eq_false hg85) ?_
    refine dw_o rfl (ok_pickF rfl (decide_eq_false hg85) rfl) ?_
    refine dw_o rfl (ok_assign rfl) ?_
    refine dw_nil ?_
    refine ent_nil ?_
    exact ent_rep ⟨slot_bool (dq_F rfl (fun h => (fun h => hg85 h.2) h.1)), trivial⟩ rfl
   refine dw_guardF rfl rfl rfl rfl (decide_eq_false hg70) ?_
   refine dw_guardF rfl rfl rfl rfl (decide_eq_false hg70) ?_
   refine dw_guardF rfl rfl rfl rfl (decide_eq_false hg70) ?_
   refine dw_guardF rfl rfl rfl rfl (decide_eq_false hg70) ?_
   refine dw_guardF rfl rfl rfl rfl (decide_eq_false hg70) ?_
   refine dw_guardF rfl rfl rfl rfl (decide_eq_false hg70) ?_
   refine dw_guardF rfl rfl rfl rfl (decide_eq_false hg70) ?_
   refine dw_guardF rfl rfl rfl rfl (decide_eq_false hg70) ?_
   refine dw_guardF rfl rfl rfl rfl (decide_eq_false hg70) ?_
   refine dw_guardF rfl rfl rfl rfl (decide_eq_false hg70) ?_
   refine dw_guardF rfl rfl rfl rfl (decide_eq_false hg70) ?_
   refine dw_guardF rfl rfl rfl rfl (decide_eq_false hg70) ?_
   refine dw_o rfl (ok_pickF rfl (decide_eq_false hg70) rfl) ?_
   refine dw_o rfl (ok_move rfl) ?_
   refine dw_guardF rfl rfl rfl rfl rfl ?_
   refine dw_guardF rfl rfl rfl rfl rfl ?_
   refine dw_guardF rfl rfl rfl rfl rfl ?_
   refine dw_guardF rfl rfl rfl rfl rfl ?_
   refine dw_guardF rfl rfl rfl rfl rfl ?_
   refine dw_guardF rfl rfl rfl rfl rfl ?_
   refine dw_guardF rfl rfl rfl rfl rfl ?_
   refine dw_guardF rfl rfl rfl rfl rfl ?_
   refine dw_guardF rfl rfl rfl rfl rfl ?_
   refine dw_o rfl (ok_pickF rfl rfl rfl) ?_
   refine dw_o rfl (ok_assign rfl) ?_
   refine dw_nil ?_
   refine ent_nil ?_
   exact ent_rep ⟨slot_bool (dq_F rfl (fun h => (fun h => (fun h => hg70 h.2) h.1) h.1)), trivial⟩ rfl
  refine dw_guardF rfl rfl rfl rfl (decide_eq_false hg64) ?_
  refine dw_guardF rfl rfl rfl rfl (decide_eq_false hg64) ?_
  refine dw_guardF rfl rfl rfl rfl (decide_eq_false hg64) ?_
  refine dw_o rfl (ok_pickF rfl (decide_eq_false hg64) rfl) ?_
  refine dw_o rfl (ok_move rfl) ?_
  refine dw_guardF rfl rfl rfl rfl rfl ?_
  refine dw_guardF rfl rfl rfl rfl rfl ?_
  refine dw_guardF rfl rfl rfl rfl rfl ?_
  refine dw_guardF rfl rfl rfl rfl rfl ?_
  refine dw_guardF rfl rfl rfl rfl rfl ?_
  refine dw_guardF rfl rfl rfl rfl rfl ?_
  refine dw_guardF rfl rfl rfl rfl rfl ?_
  refine dw_guardF rfl rfl rfl rfl rfl ?_
  refine dw_guardF rfl rfl rfl rfl rfl ?_
  refine dw_guardF rfl rfl rfl rfl rfl ?_
  refine dw_guardF rfl rfl rfl rfl rfl ?_
  refine dw_guardF rfl rfl rfl rfl rfl ?_
  refine dw_guardF rfl rfl rfl rfl rfl ?_
  refine dw_o rfl (ok_pickF rfl rfl rfl) ?_
  refine dw_o rfl (ok_move rfl) ?_
  refine dw_guardF rfl rfl rfl rfl rfl ?_
  refine dw_guardF rfl rfl rfl rfl rfl ?_
  refine dw_guardF rfl rfl rfl rfl rfl ?_
  refine dw_guardF rfl rfl rfl rfl rfl ?_
  refine dw_guardF rfl rfl rfl rfl rfl ?_
  refine dw_guardF rfl rfl rfl rfl rfl ?_
  refine dw_guardF rfl rfl rfl rfl rfl ?_
  refine dw_guardF rfl rfl rfl rfl rfl ?_
  refine dw_guardF rfl rfl rfl rfl rfl ?_
  refine dw_o rfl (ok_pickF rfl rfl rfl) ?_
  refine dw_o rfl (ok_assign rfl) ?_
  refine dw_nil ?_
  refine ent_nil ?_
  exact ent_rep ⟨slot_bool (dq_F rfl (fun h => (fun h => (fun h => hg64 h.1) h.1) h.1)), trivial⟩ rfl
 refine ent_k K15 ?_
 refine ent_ret ?_
 exact retR1 (.inr rfl) results4 (resr_tmp (res_cv rfl (cv_bool (by refine decide_eq_true ?_; rw [hlw]; exact ⟨⟨⟨hlf.1, hlf.2.1⟩, hlf.2.2.1⟩, rfl⟩))))
end Go.Proofs.YtcilbmggiahciaaGreat
