/-
  Facts for the law MatrixTransform.
-/
import Derived.Test.YtamhdlkfhhpdpaaProg
import Derived.Test.YtamhdlkfhhpdpaaWTab
import Derived.Test.YtamhdlkfhhpdpaaPlainIn
import Derived.Test.YtamhdlkfhhpdpaaCzLib
import Derived.Test.YtamhdlkfhhpdpaaW1
import Derived.Test.YtamhdlkfhhpdpaaW4
import Derived.Test.YtamhdlkfhhpdpaaW5
import Derived.Test.YtamhdlkfhhpdpaaW6
import Derived.Test.YtamhdlkfhhpdpaaW9
import Derived.Test.YtamhdlkfhhpdpaaW10
import Derived.Test.YtamhdlkfhhpdpaaW11
import Derived.Test.YtamhdlkfhhpdpaaW12
import Derived.Test.YtamhdlkfhhpdpaaW13
import Derived.Test.YtamhdlkfhhpdpaaW14
import Derived.Test.YtamhdlkfhhpdpaaW15
import Derived.Test.YtamhdlkfhhpdpaaW16
import Derived.Test.YtamhdlkfhhpdpaaW17
import Derived.Test.YtamhdlkfhhpdpaaW18
import Derived.Test.YtamhdlkfhhpdpaaW19
import Derived.Test.YtamhdlkfhhpdpaaW20
import Derived.Test.YtamhdlkfhhpdpaaW21
import Derived.Test.YtamhdlkfhhpdpaaW23
import Derived.Test.YtamhdlkfhhpdpaaW31
import Derived.Test.YtamhdlkfhhpdpaaW33
import Derived.Test.YtamhdlkfhhpdpaaW36
open Go Go.Cw
namespace Go.Proofs.Ytamhdlkfhhpdpaa
set_option maxRecDepth 100000
set_option linter.unusedVariables false
set_option linter.unusedSimpArgs false
theorem MatrixTransform_walk (f : Fld) (m : Mat)  : Ctr Try.prog 10 [aFld f, aMat m] (aBool true) := by
 refine ctr_of Try.call10 Try.func10 rfl rfl ?_
 intro w O
 refine ent_lenC 0 2 rfl rfl (fun hlen0_2 => ?_)
 refine ent_lenC 1 1 rfl rfl (fun hlen1_1 => ?_)
 refine esr rfl fun _ K1 => ?_
 refine ent_boxS rfl rfl (AllOne.mem ⟨(one_int _), (one_int _), one_sl, trivial⟩) (fun b2_1 => ?_)
 refine ent_boxS rfl rfl (AllOne.mem ⟨(one_int _), one_sl, trivial⟩) (fun b3_2 => ?_)
 refine emm rfl ?_
 refine enk K1 ?_
 refine ent_seq fun _ K2 => ?_
 refine ent_seq fun _ K3 => ?_
 refine ent_cut (⟨[(2, aEx (.pointer (some ⟨b2_1, 0, none⟩))), (3, aEx (.pointer (some ⟨b3_2, 0, none⟩))), (27, aBool (decide ((¬ (few m 200 = true)) ∨ (40 < (↑m.rows.length : Int)))))], [oBox b3_2 27 [aInt m.cols, aSl 1 false aInts m.rows], oBox b2_1 24 [aInt f.P, aInt f.M, aSl 1 false aInt f.mod]]⟩) ?_ ?_
 ·refine ent_region ?_
  refine ent_o rfl (ok_call awake_ok rfl) ?_
  refine ent_o rfl (ok_not rfl) ?_
  refine emm rfl ?_
  refine ent_guardXT rfl rfl rfl rfl rfl ?_
  refine ent_o rfl (ok_loadBS (k := 0) ti27 rfl rfl rfl) ?_
  refine ent_guardXT rfl rfl rfl rfl rfl ?_
  refine ent_o rfl (ok_call (rFew_ok m 200 (by first | rfl | assumption | omega | (simp_all; done) | grind) (by first | rfl | assumption | omega | (simp_all; done) | grind)) rfl) ?_
  refine ent_guardXT rfl rfl rfl rfl rfl ?_
  refine ent_o rfl (ok_notD rfl) ?_
  refine ent_o rfl (ok_pickF rfl rfl rfl) ?_
  refine emm rfl ?_
  refine ent_guardXDf rfl rfl rfl rfl (fun hg22 => ?_) (fun hg22 => ?_)
  ·refine ent_o rfl (ok_fieldAddrEx Try.runUnderlying27 rfl Try.sizeOf25 (by decide) rfl) ?_
   refine ent_guardXT rfl rfl rfl rfl (decide_eq_false hg22) ?_
   refine ent_o rfl (ok_loadB (k := 0) Try.isAgg25 rfl rfl rfl) ?_
   refine ent_guardXT rfl rfl rfl rfl (decide_eq_false hg22) ?_
   refine ent_o rfl (ok_len rfl Try.runUnderlying25 rfl) ?_
   refine ent_guardXT rfl rfl rfl rfl (decide_eq_false hg22) ?_
   refine ent_o rfl (ok_gtr rfl rfl) ?_
   refine ent_o rfl (ok_pickF rfl (decide_eq_false hg22) rfl) ?_
   refine ent_nil ?_
   exact ent_rep ⟨rfl, rfl, slot_bool (dq_Q ((or_iff_right hg22).trans Iff.rfl)), trivial⟩ rfl
  ·refine ent_guardXF rfl rfl rfl rfl (decide_eq_true hg22) ?_
   refine ent_guardXF rfl rfl rfl rfl (decide_eq_true hg22) ?_
   refine ent_guardXF rfl rfl rfl rfl (decide_eq_true hg22) ?_
   refine ent_o rfl (ok_pickT rfl (decide_eq_true hg22) rfl) ?_
   refine ent_nil ?_
   exact ent_rep ⟨rfl, rfl, slot_bool (dq_T rfl (Or.inl hg22)), trivial⟩ rfl
 refine ent_k K3 ?_
 refine ent_condD rfl (fun h27 => ?_) (fun h27 => ?_)
 ·refine esr rfl fun _ K4 => ?_
  refine ent_o rfl (ok_call awake_ok rfl) ?_
  refine emm rfl ?_
  refine enk K4 ?_
  refine ent_ret ?_
  exact retR1 (.inr rfl) Try.results10 (resr_tmp (res_cv rfl (cv_bool (by first | rfl | exact decide_eq_true ⟨⟨t2, t4⟩, t3⟩ | simp [t2, t3, t4]))))
 ·refine esp K2 ?_
  refine esr rfl fun _ K5 => ?_
  refine ent_o rfl (ok_loadBS (k := 1) ti24 rfl rfl rfl) ?_
  refine ent_o rfl (ok_loadBS (k := 0) ti27 rfl rfl rfl) ?_
  refine ent_o rfl (ok_call (mTransform_ok f m) rfl) ?_
  refine emm rfl ?_
  refine ent_o rfl (ok_extract rfl rfl) ?_
  refine ent_o rfl (ok_extract rfl rfl) ?_
  refine ent_o rfl (ok_extract rfl rfl) ?_
  refine ent_alloc (z := .agg #[.int .i64 0, .slice none 0 0]) [aInt 0, aEx (.slice none 0 0)] rfl zv27 rfl zc27 (fun b5_3 => ?_)
  refine ent_alloc (z := .agg #[.int .i64 0, .slice none 0 0]) [aInt 0, aEx (.slice none 0 0)] rfl zv27 rfl zc27 (fun b6_4 => ?_)
  refine ent_storeBS (k := 1) Try.sizeOf27 rfl rfl rfl (AllOne.mem ⟨(one_int _), one_sl, trivial⟩) rfl rfl ?_
  show Ent _ ⟨_, [_, _, _, _]⟩ _
  refine ent_storeBS (k := 0) Try.sizeOf27 rfl rfl rfl (AllOne.mem ⟨(one_int _), one_sl, trivial⟩) rfl rfl ?_
  show Ent _ ⟨_, [_, _, _, _]⟩ _
  refine emm rfl ?_
  refine enk K5 ?_
  refine esr rfl fun _ K6 => ?_
  refine ent_o rfl (ok_loadBS (k := 3) ti24 rfl rfl rfl) ?_
  refine ent_o rfl (ok_loadBS (k := 2) ti27 rfl rfl rfl) ?_
  refine ent_o rfl (ok_call (rTransform_ok f m) rfl) ?_
  refine emm rfl ?_
  refine ent_o rfl (ok_extract rfl rfl) ?_
  refine ent_o rfl (ok_extract rfl rfl) ?_
  refine ent_o rfl (ok_extract rfl rfl) ?_
  refine ent_alloc (z := .agg #[.int .i64 0, .slice none 0 0]) [aInt 0, aEx (.slice none 0 0)] rfl zv27 rfl zc27 (fun b8_5 => ?_)
  refine ent_alloc (z := .agg #[.int .i64 0, .slice none 0 0]) [aInt 0, aEx (.slice none 0 0)] rfl zv27 rfl zc27 (fun b9_6 => ?_)
  refine ent_storeBS (k := 1) Try.sizeOf27 rfl rfl rfl (AllOne.mem ⟨(one_int _), one_sl, trivial⟩) rfl rfl ?_
  show Ent _ ⟨_, [_, _, _, _, _, _]⟩ _
  refine ent_storeBS (k := 0) Try.sizeOf27 rfl rfl rfl (AllOne.mem ⟨(one_int _), one_sl, trivial⟩) rfl rfl ?_
  show Ent _ ⟨_, [_, _, _, _, _, _]⟩ _
  refine emm rfl ?_
  refine enk K6 ?_
  refine ent_seq fun _ K7 => ?_
  refine esr rfl fun _ K8 => ?_
  refine ent_o rfl (ok_neq rfl rfl) ?_
  refine emm rfl ?_
  refine ent_guardXT rfl rfl rfl rfl (decide_eq_false (fun hq => hq rfl)) ?_
  refine ent_o rfl (ok_loadBS (k := 3) ti27 rfl rfl rfl) ?_
  refine ent_guardXT rfl rfl rfl rfl (decide_eq_false (fun hq => hq rfl)) ?_
  refine ent_o rfl (ok_loadBS (k := 1) ti27 rfl rfl rfl) ?_
  refine ent_guardXT rfl rfl rfl rfl (decide_eq_false (fun hq => hq rfl)) ?_
  refine ent_o rfl (ok_call (rSame_ok (traT f m) (traT f m)) rfl) ?_
  refine ent_guardXT rfl rfl rfl rfl (decide_eq_false (fun hq => hq rfl)) ?_
  refine ent_o rfl (ok_not rfl) ?_
  refine ent_o rfl (ok_pickF rfl (decide_eq_false (fun hq => hq rfl)) rfl) ?_
  refine emm rfl ?_
  refine ent_guardXT rfl rfl rfl rfl (by rw [show (decide ((traT f m) = (traT f m))) = true from (decide_eq_true rfl)]; rfl) ?_
  refine ent_o rfl (ok_loadBS (k := 2) ti27 rfl rfl rfl) ?_
  refine ent_guardXT rfl rfl rfl rfl (by rw [show (decide ((traT f m) = (traT f m))) = true from (decide_eq_true rfl)]; rfl) ?_
  refine ent_o rfl (ok_loadBS (k := 0) ti27 rfl rfl rfl) ?_
  refine ent_guardXT rfl rfl rfl rfl (by rw [show (decide ((traT f m) = (traT f m))) = true from (decide_eq_true rfl)]; rfl) ?_
  refine ent_o rfl (ok_call (rSame_ok (traR f m) (traR f m)) rfl) ?_
  refine ent_guardXT rfl rfl rfl rfl (by rw [show (decide ((traT f m) = (traT f m))) = true from (decide_eq_true rfl)]; rfl) ?_
  refine ent_o rfl (ok_not rfl) ?_
  refine ent_o rfl (ok_pickF rfl (by rw [show (decide ((traT f m) = (traT f m))) = true from (decide_eq_true rfl)]; rfl) rfl) ?_
  refine enk K8 ?_
  refine ent_condFP rfl (by rw [show (decide ((traR f m) = (traR f m))) = true from (decide_eq_true rfl)]; rfl) ?_
  refine esp K7 ?_
  refine ent_seq fun _ K9 => ?_
  refine esr rfl fun _ K10 => ?_
  refine ent_o rfl (ok_neq rfl rfl) ?_
  refine enk K10 ?_
  refine ent_condD rfl (fun h59 => ?_) (fun h59 => ?_)
  ·refine esk rfl ?_
   refine ent_ret ?_
   exact retR1 (.inr rfl) Try.results10 (resr_tmp (res_cv rfl (cv_bool (by first | rfl | exact decide_eq_true ⟨⟨t2, t4⟩, t3⟩ | simp [t2, t3, t4]))))
  ·have hm0 := Classical.not_not.1 h59
   have hT := tra_facts hm0
   have t1 := hT.t
   have t2 := hT.p
   have t3 := hT.pr
   have t4 := hT.k
   refine esp K9 ?_
   refine esr rfl fun _ K12 => ?_
   refine ent_o rfl (ok_loadBS (k := 5) ti24 rfl rfl rfl) ?_
   refine ent_o rfl (ok_loadBS (k := 3) ti27 rfl rfl rfl) ?_
   refine ent_o rfl (ok_loadBS (k := 4) ti27 rfl rfl rfl) ?_
   refine ent_o rfl (ok_call (mMulE_ok f (traT f m) m) rfl) ?_
   refine emm rfl ?_
   refine ent_o rfl (ok_extract rfl rfl) ?_
   refine ent_o rfl (ok_extract rfl rfl) ?_
   refine ent_alloc (z := .agg #[.int .i64 0, .slice none 0 0]) [aInt 0, aEx (.slice none 0 0)] rfl zv27 rfl zc27 (fun b11_7 => ?_)
   refine ent_storeBS (k := 0) Try.sizeOf27 rfl rfl rfl (AllOne.mem ⟨(one_int _), one_sl, trivial⟩) rfl rfl ?_
   show Ent _ ⟨_, [_, _, _, _, _, _, _]⟩ _
   refine emm rfl ?_
   refine enk K12 ?_
   refine esr rfl fun _ K13 => ?_
   refine ent_o rfl (ok_loadBS (k := 6) ti24 rfl rfl rfl) ?_
   refine ent_o rfl (ok_loadBS (k := 4) ti27 rfl rfl rfl) ?_
   refine ent_o rfl (ok_call (mInverse_ok f (traT f m)) rfl) ?_
   refine emm rfl ?_
   refine ent_o rfl (ok_extract rfl rfl) ?_
   refine ent_o rfl (ok_extract rfl rfl) ?_
   refine ent_alloc (z := .agg #[.int .i64 0, .slice none 0 0]) [aInt 0, aEx (.slice none 0 0)] rfl zv27 rfl zc27 (fun b13_8 => ?_)
   refine ent_storeBS (k := 0) Try.sizeOf27 rfl rfl rfl (AllOne.mem ⟨(one_int _), one_sl, trivial⟩) rfl rfl ?_
   show Ent _ ⟨_, [_, _, _, _, _, _, _, _]⟩ _
   refine emm rfl ?_
   refine enk K13 ?_
   refine ent_seq fun _ K14 => ?_
   refine ent_cut (⟨[(4, aBool (decide ((((mulE f (traT f m) m) = 0) ∧ ((invE f (traT f m)) = 0)) ∧ ((mulV f (traT f m) m) = (traR f m)))))], [oBox b13_8 27 [aInt ((invM f (traT f m)).cols), aSl 1 false aInts ((invM f (traT f m)).rows)], oBox b11_7 27 [aInt ((mulV f (traT f m) m).cols), aSl 1 false aInts ((mulV f (traT f m) m).rows)], oBox b9_6 27 [aInt ((traR f m).cols), aSl 1 false aInts ((traR f m).rows)], oBox b8_5 27 [aInt ((traT f m).cols), aSl 1 false aInts ((traT f m).rows)], oBox b6_4 27 [aInt ((traR f m).cols), aSl 1 false aInts ((traR f m).rows)], oBox b5_3 27 [aInt ((traT f m).cols), aSl 1 false aInts ((traT f m).rows)], oBox b3_2 27 [aInt m.cols, aSl 1 false aInts m.rows], oBox b2_1 24 [aInt f.P, aInt f.M, aSl 1 false aInt f.mod]]⟩) ?_ ?_
   ·refine ent_region ?_
    refine emm rfl ?_
    refine ent_o rfl (ok_eql rfl rfl) ?_
    refine emm rfl ?_
    refine ent_guardXDt rfl rfl rfl rfl (fun hg75 => ?_) (fun hg75 => ?_)
    ·refine emm rfl ?_
     refine ent_guardXT rfl rfl rfl rfl (decide_eq_true hg75) ?_
     refine ent_o rfl (ok_eql rfl rfl) ?_
     refine ent_o rfl (ok_pickT rfl (decide_eq_true hg75) rfl) ?_
     refine emm rfl ?_
     refine ent_guardXDt rfl rfl rfl rfl (fun hg79 => ?_) (fun hg79 => ?_)
     ·refine ent_o rfl (ok_loadBS (k := 1) ti27 rfl rfl rfl) ?_
      refine ent_guardXT rfl rfl rfl rfl (decide_eq_true hg79) ?_
      refine ent_o rfl (ok_loadBS (k := 4) ti27 rfl rfl rfl) ?_
      refine ent_guardXT rfl rfl rfl rfl (decide_eq_true hg79) ?_
      refine ent_o rfl (ok_call (rSame_ok (mulV f (traT f m) m) (traR f m)) rfl) ?_
      refine ent_o rfl (ok_pickT rfl (decide_eq_true hg79) rfl) ?_
      refine emm rfl ?_
      refine ent_nil ?_
      exact ent_rep ⟨slot_bool (dq_Q ((and_iff_right ⟨hg75, hg79⟩).trans Iff.rfl)), trivial⟩ rfl
     ·refine ent_guardXF rfl rfl rfl rfl (decide_eq_false hg79) ?_
      refine ent_guardXF rfl rfl rfl rfl (decide_eq_false hg79) ?_
      refine ent_o rfl (ok_pickF rfl (decide_eq_false hg79) rfl) ?_
      refine emm rfl ?_
      refine ent_nil ?_
      exact ent_rep ⟨slot_bool (dq_F rfl (fun h => (fun h => hg79 h.2) h.1)), trivial⟩ rfl
    ·refine ent_guardXF rfl rfl rfl rfl (decide_eq_false hg75) ?_
     refine ent_o rfl (ok_pickF rfl (decide_eq_false hg75) rfl) ?_
     refine emm rfl ?_
     refine ent_guardXF rfl rfl rfl rfl rfl ?_
     refine ent_guardXF rfl rfl rfl rfl rfl ?_
     refine ent_guardXF rfl rfl rfl rfl rfl ?_
     refine ent_o rfl (ok_pickF rfl rfl rfl) ?_
     refine emm rfl ?_
     refine ent_nil ?_
     exact ent_rep ⟨slot_bool (dq_F rfl (fun h => (fun h => hg75 h.1) h.1)), trivial⟩ rfl
   refine ent_k K14 ?_
   refine ent_ret ?_
   exact retR1 (.inr rfl) Try.results10 (resr_tmp (res_cv rfl (cv_bool (by first | rfl | exact decide_eq_true ⟨⟨t2, t4⟩, t3⟩ | simp [t2, t3, t4]))))
end Go.Proofs.Ytamhdlkfhhpdpaa
