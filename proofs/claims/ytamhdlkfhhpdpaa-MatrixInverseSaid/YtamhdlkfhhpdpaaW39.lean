/-
  Facts for the law MatrixInverse.
-/
import Derived.Test.YtamhdlkfhhpdpaaProg
import Derived.Test.YtamhdlkfhhpdpaaWTab
import Derived.Test.YtamhdlkfhhpdpaaPlainDr
import Derived.Test.YtamhdlkfhhpdpaaCzLib
import Derived.Test.YtamhdlkfhhpdpaaW1
import Derived.Test.YtamhdlkfhhpdpaaW4
import Derived.Test.YtamhdlkfhhpdpaaW5
import Derived.Test.YtamhdlkfhhpdpaaW6
import Derived.Test.YtamhdlkfhhpdpaaW9
import Derived.Test.YtamhdlkfhhpdpaaW10
import Derived.Test.YtamhdlkfhhpdpaaW11
import Derived.Test.YtamhdlkfhhpdpaaW12
import Derived.Test.YtamhdlkfhhpdpaaW13
import Derived.Test.YtamhdlkfhhpdpaaW14
import Derived.Test.YtamhdlkfhhpdpaaW15
import Derived.Test.YtamhdlkfhhpdpaaW16
import Derived.Test.YtamhdlkfhhpdpaaW17
import Derived.Test.YtamhdlkfhhpdpaaW18
import Derived.Test.YtamhdlkfhhpdpaaW19
import Derived.Test.YtamhdlkfhhpdpaaW20
import Derived.Test.YtamhdlkfhhpdpaaW21
import Derived.Test.YtamhdlkfhhpdpaaW23
import Derived.Test.YtamhdlkfhhpdpaaW31
import Derived.Test.YtamhdlkfhhpdpaaW33
import Derived.Test.YtamhdlkfhhpdpaaW36
import Derived.Test.YtamhdlkfhhpdpaaW38
open Go Go.Cw
namespace Go.Proofs.Ytamhdlkfhhpdpaa
set_option maxRecDepth 100000
set_option linter.unusedVariables false
set_option linter.unusedSimpArgs false
theorem MatrixInverse_walk (f : Fld) (m : Mat)  : Ctr Try.prog 9 [aFld f, aMat m] (aBool true) := by
 refine ctr_of Try.call9 Try.func9 rfl rfl ?_
 intro w O
 refine ent_lenC 0 2 rfl rfl (fun hlen0_2 => ?_)
 refine ent_lenC 1 1 rfl rfl (fun hlen1_1 => ?_)
 refine esr rfl fun _ K1 => ?_
 refine ent_boxS rfl rfl (AllOne.mem ⟨(one_int _), (one_int _), one_sl, trivial⟩) (fun b2_1 => ?_)
 refine ent_boxS rfl rfl (AllOne.mem ⟨(one_int _), one_sl, trivial⟩) (fun b3_2 => ?_)
 refine emm rfl ?_
 refine enk K1 ?_
 refine ent_seq fun _ K2 => ?_
 refine ent_seq fun _ K3 => ?_
 refine ent_cut (⟨[(2, aEx (.pointer (some ⟨b2_1, 0, none⟩))), (3, aEx (.pointer (some ⟨b3_2, 0, none⟩))), (29, aBool (decide ((5 < (↑m.rows.length : Int)) ∨ (¬ (few m 300 = true)))))], [oBox b3_2 27 [aInt m.cols, aSl 1 false aInts m.rows], oBox b2_1 24 [aInt f.P, aInt f.M, aSl 1 false aInt f.mod]]⟩) ?_ ?_
 ·refine ent_region ?_
  refine ent_o rfl (ok_call awake_ok rfl) ?_
  refine ent_o rfl (ok_not rfl) ?_
  refine emm rfl ?_
  refine ent_guardXT rfl rfl rfl rfl rfl ?_
  refine ent_o rfl (ok_fieldAddrEx Try.runUnderlying27 rfl Try.sizeOf25 (by decide) rfl) ?_
  refine ent_guardXT rfl rfl rfl rfl rfl ?_
  refine ent_o rfl (ok_loadB (k := 0) Try.isAgg25 rfl rfl rfl) ?_
  refine ent_guardXT rfl rfl rfl rfl rfl ?_
  refine ent_o rfl (ok_len rfl Try.runUnderlying25 rfl) ?_
  refine ent_guardXT rfl rfl rfl rfl rfl ?_
  refine ent_o rfl (ok_gtr rfl rfl) ?_
  refine ent_o rfl (ok_pickF rfl rfl rfl) ?_
  refine emm rfl ?_
  refine ent_guardXDf rfl rfl rfl rfl (fun hg25 => ?_) (fun hg25 => ?_)
  ·refine ent_o rfl (ok_loadBS (k := 0) ti27 rfl rfl rfl) ?_
   refine ent_guardXT rfl rfl rfl rfl (decide_eq_false hg25) ?_
   refine ent_o rfl (ok_call (rFew_ok m 300 (by first | rfl | assumption | omega | (simp_all; done) | grind) (by first | rfl | assumption | omega | (simp_all; done) | grind)) rfl) ?_
   refine ent_guardXT rfl rfl rfl rfl (decide_eq_false hg25) ?_
   refine ent_o rfl (ok_notD rfl) ?_
   refine ent_o rfl (ok_pickF rfl (decide_eq_false hg25) rfl) ?_
   refine ent_nil ?_
   exact ent_rep ⟨rfl, rfl, slot_bool (dq_Q ((or_iff_right hg25).trans Iff.rfl)), trivial⟩ rfl
  ·refine ent_guardXF rfl rfl rfl rfl (decide_eq_true hg25) ?_
   refine ent_guardXF rfl rfl rfl rfl (decide_eq_true hg25) ?_
   refine ent_o rfl (ok_pickT rfl (decide_eq_true hg25) rfl) ?_
   refine ent_nil ?_
   exact ent_rep ⟨rfl, rfl, slot_bool (dq_T rfl (Or.inl hg25)), trivial⟩ rfl
 refine ent_k K3 ?_
 refine ent_condD rfl (fun h29 => ?_) (fun h29 => ?_)
 ·refine esr rfl fun _ K4 => ?_
  refine ent_o rfl (ok_call awake_ok rfl) ?_
  refine emm rfl ?_
  refine enk K4 ?_
  refine ent_ret ?_
  exact retR1 (.inr rfl) Try.results9 (resr_tmp (res_cv rfl (cv_bool (by first | rfl | exact decide_eq_true hd0 | exact decide_eq_true ⟨⟨⟨⟨i6, i2⟩, i3⟩, i4⟩, i5⟩ | simp [i2, i3, i4, i5, i6]))))
 ·refine esp K2 ?_
  refine esr rfl fun _ K5 => ?_
  refine ent_o rfl (ok_loadBS (k := 1) ti24 rfl rfl rfl) ?_
  refine ent_o rfl (ok_loadBS (k := 0) ti27 rfl rfl rfl) ?_
  refine ent_o rfl (ok_call (mInverse_ok f m) rfl) ?_
  refine emm rfl ?_
  refine ent_o rfl (ok_extract rfl rfl) ?_
  refine ent_o rfl (ok_extract rfl rfl) ?_
  refine ent_alloc (z := .agg #[.int .i64 0, .slice none 0 0]) [aInt 0, aEx (.slice none 0 0)] rfl zv27 rfl zc27 (fun b5_3 => ?_)
  refine ent_storeBS (k := 0) Try.sizeOf27 rfl rfl rfl (AllOne.mem ⟨(one_int _), one_sl, trivial⟩) rfl rfl ?_
  show Ent _ ⟨_, [_, _, _]⟩ _
  refine emm rfl ?_
  refine enk K5 ?_
  refine esr rfl fun _ K6 => ?_
  refine ent_o rfl (ok_loadBS (k := 2) ti24 rfl rfl rfl) ?_
  refine ent_o rfl (ok_loadBS (k := 1) ti27 rfl rfl rfl) ?_
  refine ent_o rfl (ok_call (rInverse_ok f m) rfl) ?_
  refine emm rfl ?_
  refine ent_o rfl (ok_extract rfl rfl) ?_
  refine ent_o rfl (ok_extract rfl rfl) ?_
  refine ent_alloc (z := .agg #[.int .i64 0, .slice none 0 0]) [aInt 0, aEx (.slice none 0 0)] rfl zv27 rfl zc27 (fun b7_4 => ?_)
  refine ent_storeBS (k := 0) Try.sizeOf27 rfl rfl rfl (AllOne.mem ⟨(one_int _), one_sl, trivial⟩) rfl rfl ?_
  show Ent _ ⟨_, [_, _, _, _]⟩ _
  refine emm rfl ?_
  refine enk K6 ?_
  refine esr rfl fun _ K7 => ?_
  refine ent_o rfl (ok_loadBS (k := 3) ti24 rfl rfl rfl) ?_
  refine ent_o rfl (ok_loadBS (k := 2) ti27 rfl rfl rfl) ?_
  refine ent_o rfl (ok_call (mDet_ok f m) rfl) ?_
  refine emm rfl ?_
  refine ent_o rfl (ok_extract rfl rfl) ?_
  refine ent_o rfl (ok_extract rfl rfl) ?_
  refine emm rfl ?_
  refine enk K7 ?_
  refine esr rfl fun _ K8 => ?_
  refine ent_o rfl (ok_loadBS (k := 3) ti24 rfl rfl rfl) ?_
  refine ent_o rfl (ok_loadBS (k := 2) ti27 rfl rfl rfl) ?_
  refine ent_o rfl (ok_call (rDet_ok f m) rfl) ?_
  refine emm rfl ?_
  refine ent_o rfl (ok_extract rfl rfl) ?_
  refine ent_o rfl (ok_extract rfl rfl) ?_
  refine emm rfl ?_
  refine enk K8 ?_
  refine ent_seq fun _ K9 => ?_
  refine esr rfl fun _ K10 => ?_
  refine ent_o rfl (ok_neq rfl rfl) ?_
  refine emm rfl ?_
  refine ent_guardXT rfl rfl rfl rfl (decide_eq_false (fun hq => hq rfl)) ?_
  refine ent_o rfl (ok_loadBS (k := 1) ti27 rfl rfl rfl) ?_
  refine ent_guardXT rfl rfl rfl rfl (decide_eq_false (fun hq => hq rfl)) ?_
  refine ent_o rfl (ok_loadBS (k := 0) ti27 rfl rfl rfl) ?_
  refine ent_guardXT rfl rfl rfl rfl (decide_eq_false (fun hq => hq rfl)) ?_
  refine ent_o rfl (ok_call (rSame_ok (invM f m) (invM f m)) rfl) ?_
  refine ent_guardXT rfl rfl rfl rfl (decide_eq_false (fun hq => hq rfl)) ?_
  refine ent_o rfl (ok_not rfl) ?_
  refine ent_o rfl (ok_pickF rfl (decide_eq_false (fun hq => hq rfl)) rfl) ?_
  refine emm rfl ?_
  refine ent_guardXT rfl rfl rfl rfl (by rw [show (decide ((invM f m) = (invM f m))) = true from (decide_eq_true rfl)]; rfl) ?_
  refine emm rfl ?_
  refine ent_guardXT rfl rfl rfl rfl (by rw [show (decide ((invM f m) = (invM f m))) = true from (decide_eq_true rfl)]; rfl) ?_
  refine emm rfl ?_
  refine ent_guardXT rfl rfl rfl rfl (by rw [show (decide ((invM f m) = (invM f m))) = true from (decide_eq_true rfl)]; rfl) ?_
  refine ent_o rfl (ok_neq rfl rfl) ?_
  refine ent_o rfl (ok_pickF rfl (by rw [show (decide ((invM f m) = (invM f m))) = true from (decide_eq_true rfl)]; rfl) rfl) ?_
  refine emm rfl ?_
  refine ent_guardXT rfl rfl rfl rfl (decide_eq_false (fun hq => hq rfl)) ?_
  refine emm rfl ?_
  refine ent_guardXT rfl rfl rfl rfl (decide_eq_false (fun hq => hq rfl)) ?_
  refine emm rfl ?_
  refine ent_guardXT rfl rfl rfl rfl (decide_eq_false (fun hq => hq rfl)) ?_
  refine ent_o rfl (ok_neq rfl rfl) ?_
  refine ent_o rfl (ok_pickF rfl (decide_eq_false (fun hq => hq rfl)) rfl) ?_
  refine enk K10 ?_
  refine ent_condFP rfl (decide_eq_false (fun hq => hq rfl)) ?_
  refine esp K9 ?_
  refine ent_seq fun _ K11 => ?_
  refine esr rfl fun _ K12 => ?_
  refine ent_o rfl (ok_neq rfl rfl) ?_
  refine enk K12 ?_
  refine ent_condD rfl (fun h75 => ?_) (fun h75 => ?_)
  ·refine esk rfl ?_
   refine ent_ret ?_
   exact retR1 (.inr rfl) Try.results9 (resr_tmp (res_cv rfl (cv_bool (by first | rfl | exact decide_eq_true hd0 | exact decide_eq_true ⟨⟨⟨⟨i6, i2⟩, i3⟩, i4⟩, i5⟩ | simp [i2, i3, i4, i5, i6]))))
  ·have hq := Classical.not_not.1 h75
   refine esp K11 ?_
   refine ent_seq fun _ K14 => ?_
   refine esr rfl fun _ K15 => ?_
   refine ent_o rfl (ok_neq rfl rfl) ?_
   refine enk K15 ?_
   refine ent_condD rfl (fun h77 => ?_) (fun h77 => ?_)
   ·have hd0 := detV_zero hq h77
    refine esr rfl fun _ K16 => ?_
    refine ent_o rfl (ok_eql rfl rfl) ?_
    refine emm rfl ?_
    refine enk K16 ?_
    refine ent_ret ?_
    exact retR1 (.inr rfl) Try.results9 (resr_tmp (res_cv rfl (cv_bool (by first | rfl | exact decide_eq_true hd0 | exact decide_eq_true ⟨⟨⟨⟨i6, i2⟩, i3⟩, i4⟩, i5⟩ | simp [i2, i3, i4, i5, i6]))))
   ·have hi0 := Classical.not_not.1 h77
    have hI := inv_facts hi0
    have i1 := hI.t
    have i2 := hI.x
    have i3 := hI.y
    have i4 := hI.xr
    have i5 := hI.yr
    have i6 := hI.d
    have hsz := mat_size (mErr_zero.1 (sqErr_zero.1 hq).1).2
    refine esp K14 ?_
    refine esr rfl fun _ K17 => ?_
    refine ent_o rfl (ok_loadBS (k := 3) ti24 rfl rfl rfl) ?_
    refine ent_o rfl (ok_loadBS (k := 1) ti27 rfl rfl rfl) ?_
    refine ent_o rfl (ok_loadBS (k := 2) ti27 rfl rfl rfl) ?_
    refine ent_o rfl (ok_call (mMulE_ok f (invM f m) m) rfl) ?_
    refine emm rfl ?_
    refine ent_o rfl (ok_extract rfl rfl) ?_
    refine ent_o rfl (ok_extract rfl rfl) ?_
    refine ent_alloc (z := .agg #[.int .i64 0, .slice none 0 0]) [aInt 0, aEx (.slice none 0 0)] rfl zv27 rfl zc27 (fun b13_5 => ?_)
    refine ent_storeBS (k := 0) Try.sizeOf27 rfl rfl rfl (AllOne.mem ⟨(one_int _), one_sl, trivial⟩) rfl rfl ?_
    show Ent _ ⟨_, [_, _, _, _, _]⟩ _
    refine emm rfl ?_
    refine enk K17 ?_
    refine esr rfl fun _ K18 => ?_
    refine ent_o rfl (ok_loadBS (k := 4) ti24 rfl rfl rfl) ?_
    refine ent_o rfl (ok_loadBS (k := 3) ti27 rfl rfl rfl) ?_
    refine ent_o rfl (ok_loadBS (k := 2) ti27 rfl rfl rfl) ?_
    refine ent_o rfl (ok_call (mMulE_ok f m (invM f m)) rfl) ?_
    refine emm rfl ?_
    refine ent_o rfl (ok_extract rfl rfl) ?_
    refine ent_o rfl (ok_extract rfl rfl) ?_
    refine ent_alloc (z := .agg #[.int .i64 0, .slice none 0 0]) [aInt 0, aEx (.slice none 0 0)] rfl zv27 rfl zc27 (fun b15_6 => ?_)
    refine ent_storeBS (k := 0) Try.sizeOf27 rfl rfl rfl (AllOne.mem ⟨(one_int _), one_sl, trivial⟩) rfl rfl ?_
    show Ent _ ⟨_, [_, _, _, _, _, _]⟩ _
    refine emm rfl ?_
    refine enk K18 ?_
    refine ent_seq fun _ K19 => ?_
    refine ent_cut (⟨[(4, aBool (decide ((((((detV f m) ≠ 0) ∧ ((mulE f (invM f m) m) = 0)) ∧ ((mulE f m (invM f m)) = 0)) ∧ (((mulV f (invM f m) m).rows) = (uni m.cols))) ∧ (((mulV f m (invM f m)).rows) = (uni m.cols)))))], [oBox b15_6 27 [aInt ((mulV f m (invM f m)).cols), aSl 1 false aInts ((mulV f m (invM f m)).rows)], oBox b13_5 27 [aInt ((mulV f (invM f m) m).cols), aSl 1 false aInts ((mulV f (invM f m) m).rows)], oBox b7_4 27 [aInt ((invM f m).cols), aSl 1 false aInts ((invM f m).rows)], oBox b5_3 27 [aInt ((invM f m).cols), aSl 1 false aInts ((invM f m).rows)], oBox b3_2 27 [aInt m.cols, aSl 1 false aInts m.rows], oBox b2_1 24 [aInt f.P, aInt f.M, aSl 1 false aInt f.mod]]⟩) ?_ ?_
    ·refine ent_draw 27 mixed (by kernel_rfl) (drawQ_F (by kernel_rfl)) (by kernel_rfl) ?_
     refine dw_o rfl (ok_move rfl) ?_
     refine dw_o rfl (ok_neq rfl rfl) ?_
     refine dw_o rfl (ok_move rfl) ?_
     refine dw_guardDt rfl rfl rfl rfl (fun hg96 => ?_) (fun hg96 => ?_)
     ·refine dw_o rfl (ok_move rfl) ?_
      refine dw_guardT rfl rfl rfl rfl (decide_eq_true hg96) ?_
      refine dw_o rfl (ok_eql rfl rfl) ?_
      refine dw_o rfl (ok_pickT rfl (decide_eq_true hg96) rfl) ?_
      refine dw_o rfl (ok_move rfl) ?_
      refine dw_guardDt rfl rfl rfl rfl (fun hg100 => ?_) (fun hg100 => ?_)
      ·refine dw_o rfl (ok_move rfl) ?_
       refine dw_guardT rfl rfl rfl rfl (decide_eq_true hg100) ?_
       refine dw_o rfl (ok_eql rfl rfl) ?_
       refine dw_o rfl (ok_pickT rfl (decide_eq_true hg100) rfl) ?_
       refine dw_o rfl (ok_move rfl) ?_
       refine dw_guardDt rfl rfl rfl rfl (fun hg104 => ?_) (fun hg104 => ?_)
       ·refine dw_o rfl (ok_fieldAddrEx Try.runUnderlying27 rfl Try.sizeOf25 (by decide) rfl) ?_
        refine dw_guardT rfl rfl rfl rfl (decide_eq_true hg104) ?_
        refine dw_o rfl (ok_loadB (k := 1) Try.isAgg25 rfl rfl rfl) ?_
        refine dw_guardT rfl rfl rfl rfl (decide_eq_true hg104) ?_
        refine dw_o rfl (ok_fieldAddrEx Try.runUnderlying27 rfl Try.sizeOf3 (by decide) rfl) ?_
        refine dw_guardT rfl rfl rfl rfl (decide_eq_true hg104) ?_
        refine dw_o rfl (ok_loadB (k := 4) Try.isAgg3 rfl rfl rfl) ?_
        refine dw_guardT rfl rfl rfl rfl (decide_eq_true hg104) ?_
        refine dw_o rfl (ok_call (rUnit_ok m.cols (by first | rfl | assumption | omega | (simp_all; done) | grind) (by first | rfl | assumption | omega | (simp_all; done) | grind)) rfl) ?_
        refine dw_guardT rfl rfl rfl rfl (decide_eq_true hg104) ?_
        refine dw_o rfl (ok_call (SameRows_ok ((mulV f (invM f m) m).rows) (uni m.cols)) rfl) ?_
        refine dw_o rfl (ok_pickT rfl (decide_eq_true hg104) rfl) ?_
        refine dw_o rfl (ok_move rfl) ?_
        refine dw_guardDt rfl rfl rfl rfl (fun hg112 => ?_) (fun hg112 => ?_)
        ·refine dw_o rfl (ok_fieldAddrEx Try.runUnderlying27 rfl Try.sizeOf25 (by decide) rfl) ?_
         refine dw_guardT rfl rfl rfl rfl (decide_eq_true hg112) ?_
         refine dw_o rfl (ok_loadB (k := 0) Try.isAgg25 rfl rfl rfl) ?_
         refine dw_guardT rfl rfl rfl rfl (decide_eq_true hg112) ?_
         refine dw_o rfl (ok_fieldAddrEx Try.runUnderlying27 rfl Try.sizeOf3 (by decide) rfl) ?_
         refine dw_guardT rfl rfl rfl rfl (decide_eq_true hg112) ?_
         refine dw_o rfl (ok_loadB (k := 4) Try.isAgg3 rfl rfl rfl) ?_
         refine dw_guardT rfl rfl rfl rfl (decide_eq_true hg112) ?_
         refine dw_o rfl (ok_call (rUnit_ok m.cols (by first | rfl | assumption | omega | (simp_all; done) | grind) (by first | rfl | assumption | omega | (simp_all; done) | grind)) rfl) ?_
         refine dw_guardT rfl rfl rfl rfl (decide_eq_true hg112) ?_
         refine dw_o rfl (ok_call (SameRows_ok ((mulV f m (invM f m)).rows) (uni m.cols)) rfl) ?_
         refine dw_o rfl (ok_pickT rfl (decide_eq_true hg112) rfl) ?_
         refine dw_o rfl (ok_assign rfl) ?_
         refine dw_nil ?_
         refine ent_nil ?_
         exact ent_rep ⟨slot_bool (dq_Q ((and_iff_right ⟨⟨⟨hg96, hg100⟩, hg104⟩, hg112⟩).trans Iff.rfl)), trivial⟩ rfl
        ·refine dw_guardF rfl rfl rfl rfl (decide_eq_false hg112) ?_
         refine dw_guardF rfl rfl rfl rfl (decide_eq_false hg112) ?_
         refine dw_guardF rfl rfl rfl rfl (decide_eq_false hg112) ?_
         refine dw_guardF rfl rfl rfl rfl (decide_eq_false hg112) ?_
         refine dw_guardF rfl rfl rfl rfl (decide_eq_false hg112) ?_
         refine dw_o rfl (ok_pickF rfl (decide_eq_false hg112) rfl) ?_
         refine dw_o rfl (ok_assign rfl) ?_
         refine dw_nil ?_
         refine ent_nil ?_
         exact ent_rep ⟨slot_bool (dq_F rfl (fun h => (fun h => hg112 h.2) h.1)), trivial⟩ rfl
       ·refine dw_guardF rfl rfl rfl rfl (decide_eq_false hg104) ?_
        refine dw_guardF rfl rfl rfl rfl (decide_eq_false hg104) ?_
        refine dw_guardF rfl rfl rfl rfl (decide_eq_false hg104) ?_
        refine dw_guardF rfl rfl rfl rfl (decide_eq_false hg104) ?_
        refine dw_guardF rfl rfl rfl rfl (decide_eq_false hg104) ?_
        refine dw_o rfl (ok_pickF rfl (decide_eq_false hg104) rfl) ?_
        refine dw_o rfl (ok_move rfl) ?_
        refine dw_guardF rfl rfl rfl rfl rfl ?_
        refine dw_guardF rfl rfl rfl rfl rfl ?_
        refine dw_guardF rfl rfl rfl rfl rfl ?_
        refine dw_guardF rfl rfl rfl rfl rfl ?_
        refine dw_guardF rfl rfl rfl rfl rfl ?_
        refine dw_guardF rfl rfl rfl rfl rfl ?_
        refine dw_o rfl (ok_pickF rfl rfl rfl) ?_
        refine dw_o rfl (ok_assign rfl) ?_
        refine dw_nil ?_
        refine ent_nil ?_
        exact ent_rep ⟨slot_bool (dq_F rfl (fun h => (fun h => (fun h => hg104 h.2) h.1) h.1)), trivial⟩ rfl
      ·refine dw_guardF rfl rfl rfl rfl (decide_eq_false hg100) ?_
       refine dw_o rfl (ok_pickF rfl (decide_eq_false hg100) rfl) ?_
       refine dw_o rfl (ok_move rfl) ?_
       refine dw_guardF rfl rfl rfl rfl rfl ?_
       refine dw_guardF rfl rfl rfl rfl rfl ?_
       refine dw_guardF rfl rfl rfl rfl rfl ?_
       refine dw_guardF rfl rfl rfl rfl rfl ?_
       refine dw_guardF rfl rfl rfl rfl rfl ?_
       refine dw_guardF rfl rfl rfl rfl rfl ?_
       refine dw_o rfl (ok_pickF rfl rfl rfl) ?_
       refine dw_o rfl (ok_move rfl) ?_
       refine dw_guardF rfl rfl rfl rfl rfl ?_
       refine dw_guardF rfl rfl rfl rfl rfl ?_
       refine dw_guardF rfl rfl rfl rfl rfl ?_
       refine dw_guardF rfl rfl rfl rfl rfl ?_
       refine dw_guardF rfl rfl rfl rfl rfl ?_
       refine dw_guardF rfl rfl rfl rfl rfl ?_
       refine dw_o rfl (ok_pickF rfl rfl rfl) ?_
       refine dw_o rfl (ok_assign rfl) ?_
       refine dw_nil ?_
       refine ent_nil ?_
       exact ent_rep ⟨slot_bool (dq_F rfl (fun h => (fun h => (fun h => (fun h => hg100 h.2) h.1) h.1) h.1)), trivial⟩ rfl
     ·refine dw_guardF rfl rfl rfl rfl (decide_eq_false hg96) ?_
      refine dw_o rfl (ok_pickF rfl (decide_eq_false hg96) rfl) ?_
      refine dw_o rfl (ok_move rfl) ?_
      refine dw_guardF rfl rfl rfl rfl rfl ?_
      refine dw_guardF rfl rfl rfl rfl rfl ?_
      refine dw_o rfl (ok_pickF rfl rfl rfl) ?_
      refine dw_o rfl (ok_move rfl) ?_
      refine dw_guardF rfl rfl rfl rfl rfl ?_
      refine dw_guardF rfl rfl rfl rfl rfl ?_
      refine dw_guardF rfl rfl rfl rfl rfl ?_
      refine dw_guardF rfl rfl rfl rfl rfl ?_
      refine dw_guardF rfl rfl rfl rfl rfl ?_
      refine dw_guardF rfl rfl rfl rfl rfl ?_
      refine dw_o rfl (ok_pickF rfl rfl rfl) ?_
      refine dw_o rfl (ok_move rfl) ?_
      refine dw_guardF rfl rfl rfl rfl rfl ?_
      refine dw_guardF rfl rfl rfl rfl rfl ?_
      refine dw_guardF rfl rfl rfl rfl rfl ?_
      refine dw_guardF rfl rfl rfl rfl rfl ?_
      refine dw_guardF rfl rfl rfl rfl rfl ?_
      refine dw_guardF rfl rfl rfl rfl rfl ?_
      refine dw_o rfl (ok_pickF rfl rfl rfl) ?_
      refine dw_o rfl (ok_assign rfl) ?_
      refine dw_nil ?_
      refine ent_nil ?_
      exact ent_rep ⟨slot_bool (dq_F rfl (fun h => (fun h => (fun h => (fun h => hg96 h.1) h.1) h.1) h.1)), trivial⟩ rfl
    refine ent_k K19 ?_
    refine ent_ret ?_
    exact retR1 (.inr rfl) Try.results9 (resr_tmp (res_cv rfl (cv_bool (by first | rfl | exact decide_eq_true hd0 | exact decide_eq_true ⟨⟨⟨⟨i6, i2⟩, i3⟩, i4⟩, i5⟩ | simp [i2, i3, i4, i5, i6]))))
end Go.Proofs.Ytamhdlkfhhpdpaa
