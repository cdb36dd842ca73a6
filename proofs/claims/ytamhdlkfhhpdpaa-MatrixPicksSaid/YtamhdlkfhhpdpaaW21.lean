/-
  The reference: Kernel, Vec.
-/
import Derived.Test.YtamhdlkfhhpdpaaProg
import Derived.Test.YtamhdlkfhhpdpaaWTab
import Derived.Test.YtamhdlkfhhpdpaaPlainRf
import Derived.Test.YtamhdlkfhhpdpaaCzLib
import Derived.Test.YtamhdlkfhhpdpaaW1
import Derived.Test.YtamhdlkfhhpdpaaW4
import Derived.Test.YtamhdlkfhhpdpaaW5
import Derived.Test.YtamhdlkfhhpdpaaW6
import Derived.Test.YtamhdlkfhhpdpaaW9
import Derived.Test.YtamhdlkfhhpdpaaW10
import Derived.Test.YtamhdlkfhhpdpaaW11
import Derived.Test.YtamhdlkfhhpdpaaW12
import Derived.Test.YtamhdlkfhhpdpaaW13
import Derived.Test.YtamhdlkfhhpdpaaW14
import Derived.Test.YtamhdlkfhhpdpaaW18
import Derived.Test.YtamhdlkfhhpdpaaW19
import Derived.Test.YtamhdlkfhhpdpaaW20
open Go Go.Cw
namespace Go.Proofs.Ytamhdlkfhhpdpaa
set_option maxRecDepth 100000
set_option linter.unusedVariables false
set_option linter.unusedSimpArgs false
theorem rKernel_ok (f : Fld) (m : Mat)  : Ctr Try.prog 30 [aFld f, aMat m] (aTup [aMat (kerM f m), aInt (mErr f m)]) := by
 refine ctr_of Try.call30 Try.func30 rfl rfl ?_
 intro w O
 refine ent_lenC 0 2 rfl rfl (fun hlen0_2 => ?_)
 refine ent_lenC 1 1 rfl rfl (fun hlen1_1 => ?_)
 refine esr rfl fun _ K1 => ?_
 refine ent_boxS rfl rfl (AllOne.mem ⟨(one_int _), (one_int _), one_sl, trivial⟩) (fun b2_1 => ?_)
 refine ent_boxS rfl rfl (AllOne.mem ⟨(one_int _), one_sl, trivial⟩) (fun b3_2 => ?_)
 refine ent_alloc (z := .agg #[.int .i64 0, .slice none 0 0]) [aInt 0, aEx (.slice none 0 0)] rfl zv27 rfl zc27 (fun b4_3 => ?_)
 refine emm rfl ?_
 refine enk K1 ?_
 refine esr rfl fun _ K2 => ?_
 refine ent_o rfl (ok_loadBS (k := 2) ti24 rfl rfl rfl) ?_
 refine ent_o rfl (ok_loadBS (k := 1) ti27 rfl rfl rfl) ?_
 refine ent_o rfl (ok_call (rMCheck_ok f m) rfl) ?_
 refine emm rfl ?_
 refine enk K2 ?_
 refine ent_seq fun _ K3 => ?_
 refine esr rfl fun _ K4 => ?_
 refine ent_o rfl (ok_neq rfl rfl) ?_
 refine enk K4 ?_
 refine ent_condD rfl (fun h11 => ?_) (fun h11 => ?_)
 ·have hm0 := h11
  refine esr rfl fun _ K5 => ?_
  refine ent_o rfl (ok_build st27 (As := [aInt 0, aEx (.slice none 0 0)]) z27 (rfl)) ?_
  refine emm rfl ?_
  refine ent_storeBS (k := 0) Try.sizeOf27 rfl rfl rfl (AllOne.mem ⟨(one_int _), (one_ex rfl), trivial⟩) rfl rfl ?_
  show Ent _ ⟨_, [_, _, _]⟩ _
  refine emm rfl ?_
  refine enk K5 ?_
  refine ent_ret ?_
  exact retR2 (.inr rfl) Try.results30 (resr_cell (k := 0) ti27 rfl rfl rfl (cv_agg ⟨cv_int (by simp only [kerM_no hm0] <;> rfl), cv_nil (fun _ => rfl) (by simp only [kerM_no hm0] <;> rfl), trivial⟩)) (resr_tmp (res_cv rfl (cv_int rfl)))
 ·have hm0 := Classical.not_not.1 h11
  have hF := (mErr_zero.1 hm0).1
  have hme := (mErr_zero.1 hm0).2
  have hsz := mat_size hme
  have hgm := mat_good hme
  refine esp K3 ?_
  refine ent_seq fun _ K6 => ?_
  refine ent_draw 9 mixed (by kernel_rfl) (by kernel_rfl) (by kernel_rfl) ?_
  refine dw_o rfl (ok_fieldAddrEx Try.runUnderlying27 rfl Try.sizeOf3 (by decide) rfl) ?_
  refine dw_o rfl (ok_loadB (k := 1) Try.isAgg3 rfl rfl rfl) ?_
  refine dw_o rfl (ok_loadBS (k := 2) ti24 rfl rfl rfl) ?_
  refine dw_o rfl (ok_fieldAddrEx Try.runUnderlying27 rfl Try.sizeOf25 (by decide) rfl) ?_
  refine dw_o rfl (ok_loadB (k := 1) Try.isAgg25 rfl rfl rfl) ?_
  refine dw_o rfl (ok_fieldAddrEx Try.runUnderlying27 rfl Try.sizeOf3 (by decide) rfl) ?_
  refine dw_o rfl (ok_loadB (k := 1) Try.isAgg3 rfl rfl rfl) ?_
  refine dw_o rfl (ok_call (rNull_ok f m.rows m.cols m.cols.toNat ‹_› hgm (by omega) (by omega) (by omega) (by omega)) rfl) ?_
  refine dw_o rfl (ok_build st27 (As := [aInt 0, aEx (.slice none 0 0)]) z27 (⟨0, 1, rfl, .inl ⟨rfl, _, rfl, (one_int _), rfl, ⟨1, 1, rfl, .inl ⟨rfl, _, rfl, one_sl, rfl, rfl⟩⟩⟩⟩)) ?_
  refine dw_nil ?_
  refine ent_storeBS (k := 0) Try.sizeOf27 rfl rfl rfl (AllOne.mem ⟨(one_int _), one_sl, trivial⟩) rfl rfl ?_
  show Ent _ ⟨_, [_, _, _]⟩ _
  refine emm rfl ?_
  refine enk K6 ?_
  refine ent_ret ?_
  exact retR2 (.inr rfl) Try.results30 (resr_cell (k := 0) ti27 rfl rfl rfl (cv_agg ⟨cv_int (by simp only [kerM_ok hm0] <;> rfl), cv_sl sub_x (by simp only [kerM_ok hm0] <;> rfl), trivial⟩)) (resr_tmp (res_cv rfl (cv_int (by exact hm0.symm))))

theorem rVec_ok (f : Fld) (x : List Int) (m : Mat)  : Ctr Try.prog 51 [aFld f, aSl 1 false aInt x, aMat m] (aTup [aSl 1 false aInt (vecV f x m), aInt (vecE f x m)]) := by
 refine ctr_of Try.call51 Try.func51 rfl rfl ?_
 intro w O
 refine ent_lenC 0 2 rfl rfl (fun hlen0_2 => ?_)
 refine ent_len 1 rfl (fun hlen1 => ?_)
 refine ent_lenC 2 1 rfl rfl (fun hlen2_1 => ?_)
 refine esr rfl fun _ K1 => ?_
 refine ent_boxS rfl rfl (AllOne.mem ⟨(one_int _), (one_int _), one_sl, trivial⟩) (fun b3_1 => ?_)
 refine ent_boxS rfl rfl (AllOne.mem ⟨(one_int _), one_sl, trivial⟩) (fun b5_2 => ?_)
 refine emm rfl ?_
 refine enk K1 ?_
 refine esr rfl fun _ K2 => ?_
 refine ent_o rfl (ok_loadBS (k := 1) ti24 rfl rfl rfl) ?_
 refine ent_o rfl (ok_loadBS (k := 0) ti27 rfl rfl rfl) ?_
 refine ent_o rfl (ok_call (rMCheck_ok f m) rfl) ?_
 refine emm rfl ?_
 refine enk K2 ?_
 refine ent_seq fun _ K3 => ?_
 refine esr rfl fun _ K4 => ?_
 refine ent_o rfl (ok_eql rfl rfl) ?_
 refine enk K4 ?_
 refine ent_cut (⟨[(1, aSl 1 false aInt x), (3, aEx (.pointer (some ⟨b3_1, 0, none⟩))), (5, aEx (.pointer (some ⟨b5_2, 0, none⟩))), (8, aInt (vecE f x m))], [oBox b5_2 27 [aInt m.cols, aSl 1 false aInts m.rows], oBox b3_1 24 [aInt f.P, aInt f.M, aSl 1 false aInt f.mod]]⟩) ?_ ?_
 ·refine ent_condD rfl (fun h13 => ?_) (fun h13 => ?_)
  ·refine ent_region ?_
   refine ent_o rfl (ok_loadBS (k := 1) ti24 rfl rfl rfl) ?_
   refine emm rfl ?_
   refine ent_o rfl (ok_fieldAddrEx Try.runUnderlying27 rfl Try.sizeOf25 (by decide) rfl) ?_
   refine ent_o rfl (ok_loadB (k := 0) Try.isAgg25 rfl rfl rfl) ?_
   refine ent_o rfl (ok_len rfl Try.runUnderlying25 rfl) ?_
   refine ent_o rfl (ok_call (rVector_ok f x (↑m.rows.length : Int)) rfl) ?_
   refine emm rfl ?_
   refine ent_nil ?_
   exact ent_rep ⟨rfl, rfl, rfl, slot_av (av_int (show vecErr f x (↑m.rows.length : Int) = vecE f x m by exact (vecE_ok h13).symm)), trivial⟩ rfl
  ·refine ent_skip ?_
   exact ent_rep ⟨rfl, rfl, rfl, slot_av (av_int (show mErr f m = vecE f x m by exact (vecE_no h13).symm)), trivial⟩ rfl
 refine ent_k K3 ?_
 refine ent_seq fun _ K5 => ?_
 refine esr rfl fun _ K6 => ?_
 refine ent_o rfl (ok_neq rfl rfl) ?_
 refine enk K6 ?_
 refine ent_condD rfl (fun h21 => ?_) (fun h21 => ?_)
 ·have hv0 := h21
  refine esk rfl ?_
  refine ent_ret ?_
  exact retR2 (.inr rfl) Try.results51 (resr_tmp (res_cv rfl (cv_nil (fun _ => rfl) (by exact (vecV_no hv0).symm)))) (resr_tmp (res_cv rfl (cv_int rfl)))
 ·have hv1 := Classical.not_not.1 h21
  have hm0 : mErr f m = 0 := Classical.byContradiction fun h => by rw [vecE_no h] at hv1; exact h hv1
  have hF := (mErr_zero.1 hm0).1
  have hme := (mErr_zero.1 hm0).2
  have hsz := mat_size hme
  have hgm := mat_good hme
  have hS := hF.1
  refine esp K5 ?_
  refine esr rfl fun _ K8 => ?_
  refine ent_o rfl (ok_loadBS (k := 1) ti24 rfl rfl rfl) ?_
  refine emm rfl ?_
  refine ent_o rfl (ok_fieldAddrEx Try.runUnderlying27 rfl Try.sizeOf25 (by decide) rfl) ?_
  refine ent_o rfl (ok_loadB (k := 0) Try.isAgg25 rfl rfl rfl) ?_
  refine ent_o rfl (ok_fieldAddrEx Try.runUnderlying27 rfl Try.sizeOf3 (by decide) rfl) ?_
  refine ent_o rfl (ok_loadB (k := 0) Try.isAgg3 rfl rfl rfl) ?_
  refine ent_o rfl (ok_call (rCombine_ok f x m.rows m.cols ‹_› (by omega) (by omega) (fun i i0 i1 => row_len hme i0 i1)) rfl) ?_
  refine emm rfl ?_
  refine enk K8 ?_
  refine ent_ret ?_
  exact retR2 (.inr rfl) Try.results51 (resr_tmp (res_cv rfl (cv_sl sub_x (by exact (vecV_ok hv1).symm)))) (resr_tmp (res_cv rfl (cv_int (by exact hv1.symm))))
end Go.Proofs.Ytamhdlkfhhpdpaa
