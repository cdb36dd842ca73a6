/-
  The reference: Kernel, Vec.
-/
import Derived.Test.YtamhdlkfhhpdpaaProg
import Derived.Test.YtamhdlkfhhpdpaaWTab
import Derived.Test.YtamhdlkfhhpdpaaPlainRf
import Derived.Test.YtamhdlkfhhpdpaaCzLib
import Derived.Test.YtamhdlkfhhpdpaaW1
import Derived.Test.YtamhdlkfhhpdpaaW4
import Derived.Test.YtamhdlkfhhpdpaaW5
import Derived.Test.YtamhdlkfhhpdpaaW6
import Derived.Test.YtamhdlkfhhpdpaaW9
import Derived.Test.YtamhdlkfhhpdpaaW10
import Derived.Test.YtamhdlkfhhpdpaaW11
import Derived.Test.YtamhdlkfhhpdpaaW12
import Derived.Test.YtamhdlkfhhpdpaaW13
import Derived.Test.YtamhdlkfhhpdpaaW14
import Derived.Test.YtamhdlkfhhpdpaaW18
import Derived.Test.YtamhdlkfhhpdpaaW19
import Derived.Test.YtamhdlkfhhpdpaaW20
open Go Go.Cw
namespace Go.Proofs.Ytamhdlkfhhpdpaa
set_option maxRecDepth 100000
set_option linter.unusedVariables false
set_option linter.unusedSimpArgs false

theorem rVec_ok (f : Fld) (x : List Int) (m : Mat)  : Ctr Try.prog 51 [aFld f, aSl 1 false aInt x, aMat m] (aTup [aSl 1 false aInt (vecV f x m), aInt (vecE f x m)]) := by
 refine ctr_of Try.call51 Try.func51 rfl rfl ?_
 intro w O
 refine ent_lenC 0 2 rfl rfl (fun hlen0_2 => ?_)
 refine ent_len 1 rfl (fun hlen1 => ?_)
 refine ent_lenC 2 1 rfl rfl (fun hlen2_1 => ?_)
 refine esr rfl fun _ K1 => ?_
 refine ent_boxS rfl rfl (AllOne.mem ⟨(one_int _), (one_int _), one_sl, trivial⟩) (fun b3_1 => ?_)
 refine ent_boxS rfl rfl (AllOne.mem ⟨(one_int _), one_sl, trivial⟩) (fun b5_2 => ?_)
 refine emm rfl ?_
 refine enk K1 ?_
 refine esr rfl fun _ K2 => ?_
 refine ent_o rfl (ok_loadBS (k := 1) ti24 rfl rfl rfl) ?_
 refine ent_o rfl (ok_loadBS (k := 0) ti27 rfl rfl rfl) ?_
 refine ent_o rfl (ok_call (rMCheck_ok f m) rfl) ?_
 refine emm rfl ?_
 refine enk K2 ?_
 refine ent_seq fun _ K3 => ?_
 refine esr rfl fun _ K4 => ?_
 refine ent_o rfl (ok_eql rfl rfl) ?_
 refine enk K4 ?_
 refine ent_cut (⟨[(1, aSl 1 false aInt x), (3, aEx (.pointer (some ⟨b3_1, 0, none⟩))), (5, aEx (.pointer (some ⟨b5_2, 0, none⟩))), (8, aInt (vecE f x m))], [oBox b5_2 27 [aInt m.cols, aSl 1 false aInts m.rows], oBox b3_1 24 [aInt f.P, aInt f.M, aSl 1 false aInt f.mod]]⟩) ?_ ?_
 ·refine ent_condD rfl (fun h13 => ?_) (fun h13 => ?_)
  ·refine ent_region ?_
   refine ent_o rfl (ok_loadBS (k := 1) ti24 rfl rfl rfl) ?_
   refine emm rfl ?_
   refine ent_o rfl (ok_fieldAddrEx Try.runUnderlying27 rfl Try.sizeOf25 (by decide) rfl) ?_
   refine ent_o rfl (ok_loadB (k := 0) Try.isAgg25 rfl rfl rfl) ?_
   refine ent_o rfl (ok_len rfl Try.runUnderlying25 rfl) ?_
   refine ent_o rfl (ok_call (rVector_ok f x (↑m.rows.length : Int)) rfl) ?_
   refine emm rfl ?_
   refine ent_nil ?_
   exact ent_rep ⟨rfl, rfl, rfl, slot_av (av_int (show vecErr f x (↑m.rows.length : Int) = vecE f x m by exact (vecE_ok h13).symm)), trivial⟩ rfl
  ·refine ent_skip ?_
   exact ent_rep ⟨rfl, rfl, rfl, slot_av (av_int (show mErr f m = vecE f x m by exact (vecE_no h13).symm)), trivial⟩ rfl
 refine ent_k K3 ?_
 refine ent_seq fun _ K5 => ?_
 refine esr rfl fun _ K6 => ?_
 refine ent_o rfl (ok_neq rfl rfl) ?_
 refine enk K6 ?_
 refine ent_condD rfl (fun h21 => ?_) (fun h21 => ?_)
 ·have hv0 := h21
  refine esk rfl ?_
  refine ent_ret ?_
  exact retR2 (.inr rfl) Try.results51 (resr_tmp (res_cv rfl (cv_nil (fun _ => rfl) (by exact (vecV_no hv0).symm)))) (resr_tmp (res_cv rfl (cv_int rfl)))
 ·have hv1 := Classical.not_not.1 h21
  have hm0 : mErr f m = 0 := Classical.byContradiction fun h => by rw [vecE_no h] at hv1; exact h hv1
  have hF := (mErr_zero.1 hm0).1
  have hme := (mErr_zero.1 hm0).2
  have hsz := mat_size hme
  have hgm := mat_good hme
  have hS := hF.1
  refine esp K5 ?_
  refine esr rfl fun _ K8 => ?_
  refine ent_o rfl (ok_loadBS (k := 1) ti24 rfl rfl rfl) ?_
  refine emm rfl ?_
  refine ent_o rfl (ok_fieldAddrEx Try.runUnderlying27 rfl Try.sizeOf25 (by decide) rfl) ?_
  refine ent_o rfl (ok_loadB (k := 0) Try.isAgg25 rfl rfl rfl) ?_
  refine ent_o rfl (ok_fieldAddrEx Try.runUnderlying27 rfl Try.sizeOf3 (by decide) rfl) ?_
  refine ent_o rfl (ok_loadB (k := 0) Try.isAgg3 rfl rfl rfl) ?_
  refine ent_o rfl (ok_call (rCombine_ok f x m.rows m.cols ‹_› (by omega) (by omega) (fun i i0 i1 => row_len hme i0 i1)) rfl) ?_
  refine emm rfl ?_
  refine enk K8 ?_
  refine ent_ret ?_
  exact retR2 (.inr rfl) Try.results51 (resr_tmp (res_cv rfl (cv_sl sub_x (by exact (vecV_ok hv1).symm)))) (resr_tmp (res_cv rfl (cv_int (by exact hv1.symm))))
end Go.Proofs.Ytamhdlkfhhpdpaa

