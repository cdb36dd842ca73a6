/-
  Facts for the law MatrixKernel.
-/
import Derived.Test.YtamhdlkfhhpdpaaProg
import Derived.Test.YtamhdlkfhhpdpaaWTab
import Derived.Test.YtamhdlkfhhpdpaaPlainKn
import Derived.Test.YtamhdlkfhhpdpaaCzLib
import Derived.Test.YtamhdlkfhhpdpaaW1
import Derived.Test.YtamhdlkfhhpdpaaW4
import Derived.Test.YtamhdlkfhhpdpaaW5
import Derived.Test.YtamhdlkfhhpdpaaW6
import Derived.Test.YtamhdlkfhhpdpaaW9
import Derived.Test.YtamhdlkfhhpdpaaW10
import Derived.Test.YtamhdlkfhhpdpaaW11
import Derived.Test.YtamhdlkfhhpdpaaW12
import Derived.Test.YtamhdlkfhhpdpaaW13
import Derived.Test.YtamhdlkfhhpdpaaW14
import Derived.Test.YtamhdlkfhhpdpaaW15
import Derived.Test.YtamhdlkfhhpdpaaW16
import Derived.Test.YtamhdlkfhhpdpaaW17
import Derived.Test.YtamhdlkfhhpdpaaW18
import Derived.Test.YtamhdlkfhhpdpaaW19
import Derived.Test.YtamhdlkfhhpdpaaW20
import Derived.Test.YtamhdlkfhhpdpaaW21
import Derived.Test.YtamhdlkfhhpdpaaW23
open Go Go.Cw
namespace Go.Proofs.Ytamhdlkfhhpdpaa
set_option maxRecDepth 100000
set_option linter.unusedVariables false
set_option linter.unusedSimpArgs false
theorem MatrixKernel_walk (f : Fld) (m : Mat)  : Ctr Try.prog 6 [aFld f, aMat m] (aBool true) := by
 refine ctr_of Try.call6 Try.func6 rfl rfl ?_
 intro w O
 refine ent_lenC 0 2 rfl rfl (fun hlen0_2 => ?_)
 refine ent_lenC 1 1 rfl rfl (fun hlen1_1 => ?_)
 refine esr rfl fun _ K1 => ?_
 refine ent_boxS rfl rfl (AllOne.mem ⟨(one_int _), (one_int _), one_sl, trivial⟩) (fun b2_1 => ?_)
 refine ent_boxS rfl rfl (AllOne.mem ⟨(one_int _), one_sl, trivial⟩) (fun b3_2 => ?_)
 refine emm rfl ?_
 refine enk K1 ?_
 refine ent_seq fun _ K2 => ?_
 refine ent_seq fun _ K3 => ?_
 refine ent_cut (⟨[(2, aEx (.pointer (some ⟨b2_1, 0, none⟩))), (3, aEx (.pointer (some ⟨b3_2, 0, none⟩))), (32, aBool (decide ((¬ (few m 150 = true)) ∨ ((40 < m.cols) ∧ (0 < (↑m.rows.length : Int))))))], [oBox b3_2 27 [aInt m.cols, aSl 1 false aInts m.rows], oBox b2_1 24 [aInt f.P, aInt f.M, aSl 1 false aInt f.mod]]⟩) ?_ ?_
 ·refine ent_region ?_
  refine ent_o rfl (ok_call awake_ok rfl) ?_
  refine ent_o rfl (ok_not rfl) ?_
  refine emm rfl ?_
  refine ent_guardXT rfl rfl rfl rfl rfl ?_
  refine ent_o rfl (ok_loadBS (k := 0) ti27 rfl rfl rfl) ?_
  refine ent_guardXT rfl rfl rfl rfl rfl ?_
  refine ent_o rfl (ok_call (rFew_ok m 150 (by omega) (by omega)) rfl) ?_
  refine ent_guardXT rfl rfl rfl rfl rfl ?_
  refine ent_o rfl (ok_notD rfl) ?_
  refine ent_o rfl (ok_pickF rfl rfl rfl) ?_
  refine emm rfl ?_
  refine ent_guardXDf rfl rfl rfl rfl (fun hg22 => ?_) (fun hg22 => ?_)
  ·refine ent_o rfl (ok_fieldAddrEx Try.runUnderlying27 rfl Try.sizeOf3 (by decide) rfl) ?_
   refine ent_guardXT rfl rfl rfl rfl (decide_eq_false hg22) ?_
   refine ent_o rfl (ok_loadB (k := 0) Try.isAgg3 rfl rfl rfl) ?_
   refine ent_guardXT rfl rfl rfl rfl (decide_eq_false hg22) ?_
   refine ent_o rfl (ok_gtr rfl rfl) ?_
   refine ent_guardXT rfl rfl rfl rfl (decide_eq_false hg22) ?_
   refine emm rfl ?_
   refine ent_guardXDt rfl rfl rfl rfl (fun hg26 => ?_) (fun hg26 => ?_)
   ·refine ent_o rfl (ok_fieldAddrEx Try.runUnderlying27 rfl Try.sizeOf25 (by decide) rfl) ?_
    refine ent_guardXT rfl rfl rfl rfl (decide_eq_true hg26) ?_
    refine ent_o rfl (ok_loadB (k := 0) Try.isAgg25 rfl rfl rfl) ?_
    refine ent_guardXT rfl rfl rfl rfl (decide_eq_true hg26) ?_
    refine ent_o rfl (ok_len rfl Try.runUnderlying25 rfl) ?_
    refine ent_guardXT rfl rfl rfl rfl (decide_eq_true hg26) ?_
    refine ent_o rfl (ok_gtr rfl rfl) ?_
    refine ent_guardXT rfl rfl rfl rfl (decide_eq_false hg22) ?_
    refine ent_o rfl (ok_pickT rfl (decide_eq_true hg26) rfl) ?_
    refine ent_o rfl (ok_pickF rfl (decide_eq_false hg22) rfl) ?_
    refine ent_nil ?_
    exact ent_rep ⟨rfl, rfl, slot_bool (dq_Q ((or_iff_right hg22).trans ((and_iff_right hg26).trans Iff.rfl))), trivial⟩ rfl
   ·refine ent_guardXF rfl rfl rfl rfl (decide_eq_false hg26) ?_
    refine ent_guardXF rfl rfl rfl rfl (decide_eq_false hg26) ?_
    refine ent_guardXF rfl rfl rfl rfl (decide_eq_false hg26) ?_
    refine ent_guardXT rfl rfl rfl rfl (decide_eq_false hg22) ?_
    refine ent_o rfl (ok_pickF rfl (decide_eq_false hg26) rfl) ?_
    refine ent_o rfl (ok_pickF rfl (decide_eq_false hg22) rfl) ?_
    refine ent_nil ?_
    exact ent_rep ⟨rfl, rfl, slot_bool (dq_F rfl (fun h => h.elim hg22 (fun h => hg26 h.1))), trivial⟩ rfl
  ·refine ent_guardXF rfl rfl rfl rfl (decide_eq_true hg22) ?_
   refine ent_guardXF rfl rfl rfl rfl (decide_eq_true hg22) ?_
   refine ent_guardXF rfl rfl rfl rfl (decide_eq_true hg22) ?_
   refine ent_guardU rfl rfl rfl rfl ?_
   refine ent_guardU rfl rfl rfl rfl ?_
   refine ent_guardU rfl rfl rfl rfl ?_
   refine ent_guardU rfl rfl rfl rfl ?_
   refine ent_guardXF rfl rfl rfl rfl (decide_eq_true hg22) ?_
   refine ent_o rfl (ok_pickT rfl (decide_eq_true hg22) rfl) ?_
   refine ent_nil ?_
   exact ent_rep ⟨rfl, rfl, slot_bool (dq_T rfl (Or.inl hg22)), trivial⟩ rfl
 refine ent_k K3 ?_
 refine ent_condD rfl (fun h32 => ?_) (fun h32 => ?_)
 ·refine esr rfl fun _ K4 => ?_
  refine ent_o rfl (ok_call awake_ok rfl) ?_
  refine emm rfl ?_
  refine enk K4 ?_
  refine ent_ret ?_
  exact retR1 (.inr rfl) Try.results6 (resr_tmp (res_cv rfl (cv_bool rfl)))
 ·refine esp K2 ?_
  refine esr rfl fun _ K5 => ?_
  refine ent_o rfl (ok_loadBS (k := 1) ti24 rfl rfl rfl) ?_
  refine ent_o rfl (ok_loadBS (k := 0) ti27 rfl rfl rfl) ?_
  refine ent_o rfl (ok_call (mKernel_ok f m) rfl) ?_
  refine emm rfl ?_
  refine ent_o rfl (ok_extract rfl rfl) ?_
  refine ent_o rfl (ok_extract rfl rfl) ?_
  refine ent_alloc (z := .agg #[.int .i64 0, .slice none 0 0]) [aInt 0, aEx (.slice none 0 0)] rfl zv27 rfl zc27 (fun b5_3 => ?_)
  refine ent_storeBS (k := 0) Try.sizeOf27 rfl rfl rfl (AllOne.mem ⟨(one_int _), one_sl, trivial⟩) rfl rfl ?_
  show Ent _ ⟨_, [_, _, _]⟩ _
  refine emm rfl ?_
  refine enk K5 ?_
  refine esr rfl fun _ K6 => ?_
  refine ent_o rfl (ok_loadBS (k := 2) ti24 rfl rfl rfl) ?_
  refine ent_o rfl (ok_loadBS (k := 1) ti27 rfl rfl rfl) ?_
  refine ent_o rfl (ok_call (rKernel_ok f m) rfl) ?_
  refine emm rfl ?_
  refine ent_o rfl (ok_extract rfl rfl) ?_
  refine ent_o rfl (ok_extract rfl rfl) ?_
  refine ent_alloc (z := .agg #[.int .i64 0, .slice none 0 0]) [aInt 0, aEx (.slice none 0 0)] rfl zv27 rfl zc27 (fun b7_4 => ?_)
  refine ent_storeBS (k := 0) Try.sizeOf27 rfl rfl rfl (AllOne.mem ⟨(one_int _), one_sl, trivial⟩) rfl rfl ?_
  show Ent _ ⟨_, [_, _, _, _]⟩ _
  refine emm rfl ?_
  refine enk K6 ?_
  refine ent_seq fun _ K7 => ?_
  refine esr rfl fun _ K8 => ?_
  refine ent_o rfl (ok_neq rfl rfl) ?_
  refine emm rfl ?_
  refine ent_guardXT rfl rfl rfl rfl (decide_eq_false (fun hq => hq rfl)) ?_
  refine ent_o rfl (ok_loadBS (k := 1) ti27 rfl rfl rfl) ?_
  refine ent_guardXT rfl rfl rfl rfl (decide_eq_false (fun hq => hq rfl)) ?_
  refine ent_o rfl (ok_loadBS (k := 0) ti27 rfl rfl rfl) ?_
  refine ent_guardXT rfl rfl rfl rfl (decide_eq_false (fun hq => hq rfl)) ?_
  refine ent_o rfl (ok_call (rSame_ok (kerM f m) (kerM f m)) rfl) ?_
  refine ent_guardXT rfl rfl rfl rfl (decide_eq_false (fun hq => hq rfl)) ?_
  refine ent_o rfl (ok_not rfl) ?_
  refine ent_o rfl (ok_pickF rfl (decide_eq_false (fun hq => hq rfl)) rfl) ?_
  refine enk K8 ?_
  refine ent_condFP rfl (by rw [show (decide ((kerM f m) = (kerM f m))) = true from (decide_eq_true rfl)]; rfl) ?_
  refine esp K7 ?_
  refine ent_seq fun _ K9 => ?_
  refine esr rfl fun _ K10 => ?_
  refine ent_o rfl (ok_neq rfl rfl) ?_
  refine enk K10 ?_
  refine ent_condD rfl (fun h56 => ?_) (fun h56 => ?_)
  ·refine esk rfl ?_
   refine ent_ret ?_
   exact retR1 (.inr rfl) Try.results6 (resr_tmp (res_cv rfl (cv_bool rfl)))
  ·have hm0 := Classical.not_not.1 h56
   have hK := ker_facts hm0
   have hkd := hK.dim
   have hF := (mErr_zero.1 hm0).1
   have hme := (mErr_zero.1 hm0).2
   have hsz := mat_size hme
   have hgm := mat_good hme
   have hS := hF.1
   refine esp K9 ?_
   refine ent_seq fun _ K12 => ?_
   refine esr rfl fun _ K13 => ?_
   refine ent_o rfl (ok_fieldAddrEx Try.runUnderlying27 rfl Try.sizeOf25 (by decide) rfl) ?_
   refine ent_o rfl (ok_loadB (k := 1) Try.isAgg25 rfl rfl rfl) ?_
   refine ent_o rfl (ok_len rfl Try.runUnderlying25 rfl) ?_
   refine emm rfl ?_
   refine enk K13 ?_
   refine ent_block ?_
   refine ent_loop (fun (i : Int) => (⟨[(2, aEx (.pointer (some ⟨b2_1, 0, none⟩))), (3, aEx (.pointer (some ⟨b3_2, 0, none⟩))), (5, aEx (.pointer (some ⟨b5_3, 0, none⟩))), (58, aSl 1 false aInts ((kerM f m).rows)), (59, aInt (↑((kerM f m).rows).length : Int)), (60, aInt i)], [oBox b7_4 27 [aInt ((kerM f m).cols), aSl 1 false aInts ((kerM f m).rows)], oBox b5_3 27 [aInt ((kerM f m).cols), aSl 1 false aInts ((kerM f m).rows)], oBox b3_2 27 [aInt m.cols, aSl 1 false aInts m.rows], oBox b2_1 24 [aInt f.P, aInt f.M, aSl 1 false aInt f.mod]]⟩ : St)) (fun (i : Int) => (0 ≤ i) ∧ (i ≤ (kerM f m).rows.length)) (fun (i : Int) => ((kerM f m).rows.length - i).toNat) 0 ⟨(by omega), (by omega)⟩ (ent_rep ⟨rfl, rfl, rfl, rfl, rfl, slot_av (av_int (show 0 = (0 : Int) by rfl)), trivial⟩ rfl) ?_
   rintro i ⟨h0, h1⟩
   show Ent _ ⟨_, [_, _, _, _]⟩ _
   refine esr rfl fun _ K14 => ?_
   refine ent_o rfl (ok_lss rfl rfl) ?_
   refine enk K14 ?_
   refine ent_seq fun _ K15 => ?_
   refine ent_condD rfl (fun h61 => ?_) (fun h61 => ?_)
   ·refine esp K15 ?_
    refine ent_seq fun _ K16 => ?_
    refine ent_block ?_
    refine esr rfl fun _ K17 => ?_
    refine ent_o rfl (ok_index [] sl25 rfl rfl (by omega) (by omega)) ?_
    refine ent_o rfl (ok_load ti22 rfl) ?_
    refine emm rfl ?_
    refine enk K17 ?_
    refine esr rfl fun _ K18 => ?_
    refine ent_o rfl (ok_fieldAddrEx Try.runUnderlying27 rfl Try.sizeOf25 (by decide) rfl) ?_
    refine ent_o rfl (ok_loadB (k := 2) Try.isAgg25 rfl rfl rfl) ?_
    refine ent_o rfl (ok_len rfl Try.runUnderlying25 rfl) ?_
    refine emm rfl ?_
    refine enk K18 ?_
    refine ent_block ?_
    refine ent_loop (fun (j : Int) => (⟨[(2, aEx (.pointer (some ⟨b2_1, 0, none⟩))), (3, aEx (.pointer (some ⟨b3_2, 0, none⟩))), (5, aEx (.pointer (some ⟨b5_3, 0, none⟩))), (10, aSl 1 false aInt (ix [] ((kerM f m).rows) i)), (58, aSl 1 false aInts ((kerM f m).rows)), (59, aInt (↑((kerM f m).rows).length : Int)), (60, aInt i), (65, aSl 1 false aInts m.rows), (66, aInt (↑m.rows.length : Int)), (67, aInt j)], [oBox b7_4 27 [aInt ((kerM f m).cols), aSl 1 false aInts ((kerM f m).rows)], oBox b5_3 27 [aInt ((kerM f m).cols), aSl 1 false aInts ((kerM f m).rows)], oBox b3_2 27 [aInt m.cols, aSl 1 false aInts m.rows], oBox b2_1 24 [aInt f.P, aInt f.M, aSl 1 false aInt f.mod]]⟩ : St)) (fun (j : Int) => (0 ≤ j) ∧ (j ≤ m.rows.length)) (fun (j : Int) => (m.rows.length - j).toNat) 0 ⟨(by omega), (by omega)⟩ (ent_rep ⟨rfl, rfl, rfl, rfl, rfl, rfl, rfl, rfl, rfl, slot_av (av_int (show 0 = (0 : Int) by rfl)), trivial⟩ rfl) ?_
    rintro j ⟨j0, j1⟩
    show Ent _ ⟨_, [_, _, _, _]⟩ _
    refine esr rfl fun _ K19 => ?_
    refine ent_o rfl (ok_lss rfl rfl) ?_
    refine enk K19 ?_
    refine ent_seq fun _ K20 => ?_
    refine ent_condD rfl (fun h68 => ?_) (fun h68 => ?_)
    ·refine esp K20 ?_
     refine ent_seq fun _ K21 => ?_
     refine ent_block ?_
     refine esr rfl fun _ K22 => ?_
     refine ent_o rfl (ok_index [] sl25 rfl rfl (by omega) (by omega)) ?_
     refine ent_o rfl (ok_load ti22 rfl) ?_
     refine emm rfl ?_
     refine enk K22 ?_
     refine esr rfl fun _ K23 => ?_
     refine ent_o rfl (ok_loadBS (k := 3) ti24 rfl rfl rfl) ?_
     refine emm rfl ?_
     refine ent_o rfl (ok_call (rDot_ok f (ix [] ((kerM f m).rows) i) (ix [] m.rows j) ‹_›) rfl) ?_
     refine ent_o rfl (ok_neq rfl rfl) ?_
     refine enk K23 ?_
     refine ent_condD rfl (fun h75 => ?_) (fun h75 => ?_)
     ·exact absurd (hK.orth i j h0 h61 j0 h68) h75
     ·refine esp K21 ?_
      refine ent_region ?_
      refine ent_o rfl (ok_add rfl rfl (by omega) (by omega)) ?_
      refine emm rfl ?_
      refine ent_nil ?_
      refine ent_again (s := (j)) (j + 1) ⟨(by omega), ‹_›⟩ (by omega) (ent_rep ⟨rfl, rfl, rfl, rfl, rfl, rfl, rfl, rfl, rfl, rfl, trivial⟩ rfl)
    ·refine ent_exit ?_
     refine ent_k K16 ?_
     refine ent_region ?_
     refine ent_o rfl (ok_add rfl rfl (by omega) (by omega)) ?_
     refine emm rfl ?_
     refine ent_nil ?_
     refine ent_again (s := (i)) (i + 1) ⟨(by omega), ‹_›⟩ (by omega) (ent_rep ⟨rfl, rfl, rfl, rfl, rfl, rfl, trivial⟩ rfl)
   ·refine ent_exit ?_
    refine ent_k K12 ?_
    refine esr rfl fun _ K24 => ?_
    refine ent_o rfl (ok_loadBS (k := 3) ti24 rfl rfl rfl) ?_
    refine ent_o rfl (ok_loadBS (k := 2) ti27 rfl rfl rfl) ?_
    refine ent_o rfl (ok_call (mRank_ok f m) rfl) ?_
    refine emm rfl ?_
    refine ent_o rfl (ok_extract rfl rfl) ?_
    refine ent_o rfl (ok_extract rfl rfl) ?_
    refine emm rfl ?_
    refine enk K24 ?_
    refine ent_seq fun _ K25 => ?_
    refine ent_cut (⟨[(4, aBool (decide (((mErr f m) = 0) ∧ ((((canP f m).length) + (↑((kerM f m).rows).length : Int)) = m.cols))))], [oBox b7_4 27 [aInt ((kerM f m).cols), aSl 1 false aInts ((kerM f m).rows)], oBox b5_3 27 [aInt ((kerM f m).cols), aSl 1 false aInts ((kerM f m).rows)], oBox b3_2 27 [aInt m.cols, aSl 1 false aInts m.rows], oBox b2_1 24 [aInt f.P, aInt f.M, aSl 1 false aInt f.mod]]⟩) ?_ ?_
    ·refine ent_region ?_
     refine emm rfl ?_
     refine ent_o rfl (ok_eql rfl rfl) ?_
     refine emm rfl ?_
     refine ent_guardXDt rfl rfl rfl rfl (fun hg86 => ?_) (fun hg86 => ?_)
     ·refine emm rfl ?_
      refine ent_guardXT rfl rfl rfl rfl (decide_eq_true hg86) ?_
      refine ent_o rfl (ok_fieldAddrEx Try.runUnderlying27 rfl Try.sizeOf25 (by decide) rfl) ?_
      refine ent_guardXT rfl rfl rfl rfl (decide_eq_true hg86) ?_
      refine ent_o rfl (ok_loadB (k := 1) Try.isAgg25 rfl rfl rfl) ?_
      refine ent_guardXT rfl rfl rfl rfl (decide_eq_true hg86) ?_
      refine ent_o rfl (ok_len rfl Try.runUnderlying25 rfl) ?_
      refine ent_guardXT rfl rfl rfl rfl (decide_eq_true hg86) ?_
      refine ent_o rfl (ok_add rfl rfl (by omega) (by omega)) ?_
      refine ent_guardXT rfl rfl rfl rfl (decide_eq_true hg86) ?_
      refine ent_o rfl (ok_fieldAddrEx Try.runUnderlying27 rfl Try.sizeOf3 (by decide) rfl) ?_
      refine ent_guardXT rfl rfl rfl rfl (decide_eq_true hg86) ?_
      refine ent_o rfl (ok_loadB (k := 2) Try.isAgg3 rfl rfl rfl) ?_
      refine ent_guardXT rfl rfl rfl rfl (decide_eq_true hg86) ?_
      refine ent_o rfl (ok_eql rfl rfl) ?_
      refine ent_o rfl (ok_pickT rfl (decide_eq_true hg86) rfl) ?_
      refine emm rfl ?_
      refine ent_nil ?_
      exact ent_rep ⟨slot_bool (dq_Q ((and_iff_right hg86).trans Iff.rfl)), trivial⟩ rfl
     ·refine ent_guardXF rfl rfl rfl rfl (decide_eq_false hg86) ?_
      refine ent_guardXF rfl rfl rfl rfl (decide_eq_false hg86) ?_
      refine ent_guardXF rfl rfl rfl rfl (decide_eq_false hg86) ?_
      refine ent_guardXF rfl rfl rfl rfl (decide_eq_false hg86) ?_
      refine ent_guardXF rfl rfl rfl rfl (decide_eq_false hg86) ?_
      refine ent_guardXF rfl rfl rfl rfl (decide_eq_false hg86) ?_
      refine ent_guardXF rfl rfl rfl rfl (decide_eq_false hg86) ?_
      refine ent_o rfl (ok_pickF rfl (decide_eq_false hg86) rfl) ?_
      refine emm rfl ?_
      refine ent_nil ?_
      exact ent_rep ⟨slot_bool (dq_F rfl (fun h => hg86 h.1)), trivial⟩ rfl
    refine ent_k K25 ?_
    refine ent_ret ?_
    exact retR1 (.inr rfl) Try.results6 (resr_tmp (res_cv rfl (cv_bool (by exact decide_eq_true ⟨hm0, hK.dim⟩))))
end Go.Proofs.Ytamhdlkfhhpdpaa
