/-
  Facts for the law CosetDecodes.
-/
import Derived.Test.YtcilbmggiahciaaGreatZ46
open Go Go.Cw
namespace Go.Proofs.YtcilbmggiahciaaGreat
open Tryz
set_option maxRecDepth 100000
set_option linter.unusedVariables false
set_option linter.unusedSimpArgs false
theorem CosetDecodes_walk (q : Clm) (h64 : ∀ t ∈ q.L, -9223372036854775808 ≤ t.1 ∧ t.1 ≤ 9223372036854775807) : Ctr Tryz.prog 7 [aClm q] (aBool true) := by
 refine ctr_of Tryz.call7 func7 rfl rfl ?_
 intro w O
 refine ent_lenC 0 2 rfl rfl (fun hlen0_2 => ?_)
 refine ent_lenC 0 4 rfl rfl (fun hlen0_4 => ?_)
 refine ent_lenC 0 5 rfl rfl (fun hlen0_5 => ?_)
 refine ent_lenC 0 6 rfl rfl (fun hlen0_6 => ?_)
 refine ent_lenC 0 7 rfl rfl (fun hlen0_7 => ?_)
 refine esr rfl fun _ K1 => ?_
 refine ent_boxS rfl rfl (AllOne.mem ⟨(one_int _), (one_int _), one_sl, (one_int _), one_sl, one_sl, one_sl, one_sl, (one_int _), trivial⟩) (fun b1_1 => ?_)
 refine emm rfl ?_
 refine enk K1 ?_
 refine ent_seq fun _ K2 => ?_
 refine esr rfl fun _ K3 => ?_
 refine ent_o rfl (ok_fieldAddrEx runUnderlying30 rfl sizeOf27 (by decide) rfl) ?_
 refine ent_o rfl (ok_loadBS (k := 0) ti27 rfl rfl rfl) ?_
 refine ent_o rfl (ok_call (small_ok q.C) rfl) ?_
 refine ent_o rfl (ok_notD rfl) ?_
 refine enk K3 ?_
 refine ent_condD rfl (fun h13 => ?_) (fun h13 => ?_)
 ·refine esr rfl fun _ K4 => ?_
  refine ent_o rfl (ok_call alive_ok rfl) ?_
  refine emm rfl ?_
  refine enk K4 ?_
  refine ent_ret ?_
  exact retR1 (.inr rfl) results7 (resr_tmp (res_cv rfl (cv_bool rfl)))
 refine esp K2 ?_
 refine esr rfl fun _ K5 => ?_
 refine ent_o rfl (ok_fieldAddrEx runUnderlying30 rfl sizeOf27 (by decide) rfl) ?_
 refine ent_o rfl (ok_loadBS (k := 0) ti27 rfl rfl rfl) ?_
 refine ent_o rfl (ok_fieldAddrEx runUnderlying30 rfl sizeOf28 (by decide) rfl) ?_
 refine ent_o rfl (ok_loadB (k := 0) isAgg28 rfl rfl rfl) ?_
 refine ent_o rfl (ok_fieldAddrEx runUnderlying30 rfl sizeOf22 (by decide) rfl) ?_
 refine ent_o rfl (ok_loadB (k := 0) isAgg22 rfl rfl rfl) ?_
 refine ent_o rfl (ok_call (cDec_ok q.C q.L q.Y ‹_›) rfl) ?_
 refine emm rfl ?_
 refine ent_o rfl (ok_extract rfl rfl) ?_
 refine ent_o rfl (ok_extract rfl rfl) ?_
 refine emm rfl ?_
 refine enk K5 ?_
 refine esr rfl fun _ K6 => ?_
 refine ent_o rfl (ok_fieldAddrEx runUnderlying30 rfl sizeOf27 (by decide) rfl) ?_
 refine ent_o rfl (ok_loadBS (k := 0) ti27 rfl rfl rfl) ?_
 refine ent_o rfl (ok_fieldAddrEx runUnderlying30 rfl sizeOf22 (by decide) rfl) ?_
 refine ent_o rfl (ok_loadB (k := 0) isAgg22 rfl rfl rfl) ?_
 refine ent_o rfl (ok_call (rWord28_ok q.C q.Y) rfl) ?_
 refine emm rfl ?_
 refine enk K6 ?_
 refine ent_seq fun _ K7 => ?_
 refine esr rfl fun _ K8 => ?_
 refine ent_o rfl (ok_eql rfl rfl) ?_
 refine enk K8 ?_
 refine ent_cut (⟨[(1, aEx (.pointer (some ⟨b1_1, 0, none⟩))), (3, aSl 1 false aInt (decW q.C q.L q.Y)), (4, aInt (prE q.C q.L q.Y true)), (5, aInt (prE q.C q.L q.Y true))], [oBox b1_1 30 [aInt q.C.F.P, aInt q.C.F.M, aSl 1 false aInt q.C.F.mod, aInt q.C.N, aSl 1 false aInts q.C.Gen, aSl 3 true aLab q.L, aSl 1 false aInt q.Y, aSl 1 false aInt q.M, aInt q.S]]⟩) ?_ ?_
 ·refine ent_condD rfl (fun h31 => ?_) (fun h31 => ?_)
  ·refine ent_region ?_
   refine ent_o rfl (ok_fieldAddrEx runUnderlying30 rfl sizeOf27 (by decide) rfl) ?_
   refine ent_o rfl (ok_loadBS (k := 0) ti27 rfl rfl rfl) ?_
   refine ent_o rfl (ok_fieldAddrEx runUnderlying30 rfl sizeOf28 (by decide) rfl) ?_
   refine ent_o rfl (ok_loadB (k := 0) isAgg28 rfl rfl rfl) ?_
   refine ent_o rfl (ok_call (rChk28_ok q.C q.L) rfl) ?_
   refine emm rfl ?_
   refine ent_nil ?_
   exact ent_rep ⟨rfl, rfl, rfl, slot_av (av_int (show chkL q.C q.L = prE q.C q.L q.Y true by rw [← prE_law]; first | (rw [if_pos h31]) | (rw [if_neg h31]))), trivial⟩ rfl
  refine ent_skip ?_
  exact ent_rep ⟨rfl, rfl, rfl, slot_av (av_int (show wsE q.C q.Y = prE q.C q.L q.Y true by rw [← prE_law]; first | (rw [if_pos h31]) | (rw [if_neg h31]))), trivial⟩ rfl
 refine ent_k K7 ?_
 refine ent_seq fun _ K9 => ?_
 refine esr rfl fun _ K10 => ?_
 refine ent_o rfl (ok_neq rfl rfl) ?_
 refine emm rfl ?_
 refine ent_guardXT rfl rfl rfl rfl (decide_eq_false (fun hq => hq rfl)) ?_
 refine ent_o rfl (ok_call alive_ok rfl) ?_
 refine ent_guardXT rfl rfl rfl rfl (decide_eq_false (fun hq => hq rfl)) ?_
 refine ent_o rfl (ok_not rfl) ?_
 refine ent_o rfl (ok_pickF rfl (decide_eq_false (fun hq => hq rfl)) rfl) ?_
 refine enk K10 ?_
 refine ent_condF rfl ?_
 refine esp K9 ?_
 refine ent_seq fun _ K11 => ?_
 refine esr rfl fun _ K12 => ?_
 refine ent_o rfl (ok_neq rfl rfl) ?_
 refine enk K12 ?_
 refine ent_condD rfl (fun h45 => ?_) (fun h45 => ?_)
 ·have hlw : decW q.C q.L q.Y = [] := if_neg h45
  refine esr rfl fun _ K13 => ?_
  refine ent_o rfl (ok_len rfl runUnderlying22 rfl) ?_
  refine ent_o rfl (ok_eql rfl rfl) ?_
  refine emm rfl ?_
  refine enk K13 ?_
  refine ent_ret ?_
  exact retR1 (.inr rfl) results7 (resr_tmp (res_cv rfl (cv_bool (by rw [hlw]; rfl))))
 have h0 := Classical.not_not.1 h45
 have hdf := dec_facts h0
 refine esp K11 ?_
 refine esr rfl fun _ K14 => ?_
 refine ent_o rfl (ok_fieldAddrEx runUnderlying30 rfl sizeOf27 (by decide) rfl) ?_
 refine ent_o rfl (ok_loadBS (k := 0) ti27 rfl rfl rfl) ?_
 refine emm rfl ?_
 refine ent_o rfl (ok_call (rHas_ok q.C (decW q.C q.L q.Y) hdf.1 hdf.2.1) rfl) ?_
 refine emm rfl ?_
 refine ent_o rfl (ok_extract rfl rfl) ?_
 refine ent_o rfl (ok_extract rfl rfl) ?_
 refine emm rfl ?_
 refine enk K14 ?_
 refine ent_seq fun _ K15 => ?_
 refine esr rfl fun _ K16 => ?_
 refine ent_o rfl (ok_not rfl) ?_
 refine emm rfl ?_
 refine ent_guardXT rfl rfl rfl rfl rfl ?_
 refine emm rfl ?_
 refine ent_guardXT rfl rfl rfl rfl rfl ?_
 refine ent_o rfl (ok_neq rfl rfl) ?_
 refine ent_o rfl (ok_pickF rfl rfl rfl) ?_
 refine enk K16 ?_
 refine ent_condFP rfl (by decide) ?_
 refine esp K15 ?_
 refine esr rfl fun _ K17 => ?_
 refine ent_o rfl (ok_fieldAddrEx runUnderlying30 rfl sizeOf27 (by decide) rfl) ?_
 refine ent_o rfl (ok_loadBS (k := 0) ti27 rfl rfl rfl) ?_
 refine ent_o rfl (ok_fieldAddrEx runUnderlying30 rfl sizeOf22 (by decide) rfl) ?_
 refine ent_o rfl (ok_loadB (k := 0) isAgg22 rfl rfl rfl) ?_
 refine ent_o rfl (ok_call (rEncode_ok q.C q.M) rfl) ?_
 refine emm rfl ?_
 refine ent_o rfl (ok_extract rfl rfl) ?_
 refine ent_o rfl (ok_extract rfl rfl) ?_
 refine emm rfl ?_
 refine enk K17 ?_
 refine ent_seq fun _ K18 => ?_
 refine ent_cut (⟨[(2, aBool (decide (((encE q.C q.M) ≠ 0) ∨ ((dst (decW q.C q.L q.Y) q.Y) ≤ (dst (encC q.C q.M) q.Y)))))], [oBox b1_1 30 [aInt q.C.F.P, aInt q.C.F.M, aSl 1 false aInt q.C.F.mod, aInt q.C.N, aSl 1 false aInts q.C.Gen, aSl 3 true aLab q.L, aSl 1 false aInt q.Y, aSl 1 false aInt q.M, aInt q.S]]⟩) ?_ ?_
 ·refine ent_draw 14 mixed (by kernel_rfl) (by kernel_rfl) (by kernel_rfl) ?_
  refine dw_o rfl (ok_move rfl) ?_
  refine dw_o rfl (ok_neq rfl rfl) ?_
  refine dw_o rfl (ok_move rfl) ?_
  refine dw_guardDf rfl rfl rfl rfl (fun hg72 => ?_) (fun hg72 => ?_)
  ·refine dw_o rfl (ok_move rfl) ?_
   refine dw_guardT rfl rfl rfl rfl (decide_eq_false hg72) ?_
   refine dw_o rfl (ok_fieldAddrEx runUnderlying30 rfl sizeOf22 (by decide) rfl) ?_
   refine dw_guardT rfl rfl rfl rfl (decide_eq_false hg72) ?_
   refine dw_o rfl (ok_loadB (k := 0) isAgg22 rfl rfl rfl) ?_
   refine dw_guardT rfl rfl rfl rfl (decide_eq_false hg72) ?_
   refine dw_o rfl (ok_call (rDistance_ok (encC q.C q.M) q.Y) rfl) ?_
   refine dw_guardT rfl rfl rfl rfl (decide_eq_false hg72) ?_
   refine dw_o rfl (ok_move rfl) ?_
   refine dw_guardT rfl rfl rfl rfl (decide_eq_false hg72) ?_
   refine dw_o rfl (ok_fieldAddrEx runUnderlying30 rfl sizeOf22 (by decide) rfl) ?_
   refine dw_guardT rfl rfl rfl rfl (decide_eq_false hg72) ?_
   refine dw_o rfl (ok_loadB (k := 0) isAgg22 rfl rfl rfl) ?_
   refine dw_guardT rfl rfl rfl rfl (decide_eq_false hg72) ?_
   refine dw_o rfl (ok_call (rDistance_ok (decW q.C q.L q.Y) q.Y) rfl) ?_
   refine dw_guardT rfl rfl rfl rfl (decide_eq_false hg72) ?_
   refine dw_o rfl (ok_geq rfl rfl) ?_
   refine dw_o rfl (ok_pickF rfl (decide_eq_false hg72) rfl) ?_
   refine dw_o rfl (ok_assign rfl) ?_
   refine dw_nil ?_
   refine ent_nil ?_
   exact ent_rep ⟨slot_bool (dq_Q ((or_iff_right hg72).trans Iff.rfl)), trivial⟩ rfl
  refine dw_guardF rfl rfl rfl rfl (decide_eq_true hg72) ?_
  refine dw_guardF rfl rfl rfl rfl (decide_eq_true hg72) ?_
  refine dw_guardF rfl rfl rfl rfl (decide_eq_true hg72) ?_
  refine dw_guardF rfl rfl rfl rfl (decide_eq_true hg72) ?_
  refine dw_guardF rfl rfl rfl rfl (decide_eq_true hg72) ?_
  refine dw_guardF rfl rfl rfl rfl (decide_eq_true hg72) ?_
  refine dw_guardF rfl rfl rfl rfl (decide_eq_true hg72) ?_
  refine dw_guardF rfl rfl rfl rfl (decide_eq_true hg72) ?_
  refine dw_o rfl (ok_pickT rfl (decide_eq_true hg72) rfl) ?_
  refine dw_o rfl (ok_assign rfl) ?_
  refine dw_nil ?_
  refine ent_nil ?_
  exact ent_rep ⟨slot_bool (dq_T rfl (Or.inl hg72)), trivial⟩ rfl
 refine ent_k K18 ?_
 refine ent_ret ?_
 exact retR1 (.inr rfl) results7 (resr_tmp (res_cv rfl (cv_bool (by refine decide_eq_true ?_; exact Classical.or_iff_not_imp_left.2 fun hn => hdf.2.2 q.M (Classical.not_not.1 hn)))))
end Go.Proofs.YtcilbmggiahciaaGreat
