/-
  Facts for the law MatrixProducts.
-/
import Derived.Test.YtamhdlkfhhpdpaaProg
import Derived.Test.YtamhdlkfhhpdpaaWTab
import Derived.Test.YtamhdlkfhhpdpaaPlainBs
import Derived.Test.YtamhdlkfhhpdpaaCgLib
import Derived.Test.YtamhdlkfhhpdpaaW1
import Derived.Test.YtamhdlkfhhpdpaaW4
import Derived.Test.YtamhdlkfhhpdpaaW5
import Derived.Test.YtamhdlkfhhpdpaaW6
import Derived.Test.YtamhdlkfhhpdpaaW9
import Derived.Test.YtamhdlkfhhpdpaaW10
import Derived.Test.YtamhdlkfhhpdpaaW11
import Derived.Test.YtamhdlkfhhpdpaaW12
import Derived.Test.YtamhdlkfhhpdpaaW13
import Derived.Test.YtamhdlkfhhpdpaaW14
import Derived.Test.YtamhdlkfhhpdpaaW15
import Derived.Test.YtamhdlkfhhpdpaaW16
import Derived.Test.YtamhdlkfhhpdpaaW17
import Derived.Test.YtamhdlkfhhpdpaaW18
import Derived.Test.YtamhdlkfhhpdpaaW19
import Derived.Test.YtamhdlkfhhpdpaaW20
import Derived.Test.YtamhdlkfhhpdpaaW21
import Derived.Test.YtamhdlkfhhpdpaaW23
import Derived.Test.YtamhdlkfhhpdpaaW31
import Derived.Test.YtamhdlkfhhpdpaaW40
import Derived.Test.YtamhdlkfhhpdpaaW41
import Derived.Test.YtamhdlkfhhpdpaaW42
open Go Go.Cw
namespace Go.Proofs.Ytamhdlkfhhpdpaa
set_option maxRecDepth 100000
set_option linter.unusedVariables false
set_option linter.unusedSimpArgs false
theorem MatrixProducts_walk (f : Fld) (a b : Mat)  : Ctr Try.prog 14 [aFld f, aMat a, aMat b] (aBool true) := by
 refine ctr_of Try.call14 Try.func14 rfl rfl ?_
 intro w O
 refine ent_lenC 0 2 rfl rfl (fun hlen0_2 => ?_)
 refine ent_lenC 1 1 rfl rfl (fun hlen1_1 => ?_)
 refine ent_lenC 2 1 rfl rfl (fun hlen2_1 => ?_)
 refine esr rfl fun _ K1 => ?_
 refine ent_boxS rfl rfl (AllOne.mem ⟨(one_int _), (one_int _), one_sl, trivial⟩) (fun b3_1 => ?_)
 refine ent_boxS rfl rfl (AllOne.mem ⟨(one_int _), one_sl, trivial⟩) (fun b4_2 => ?_)
 refine ent_boxS rfl rfl (AllOne.mem ⟨(one_int _), one_sl, trivial⟩) (fun b5_3 => ?_)
 refine emm rfl ?_
 refine enk K1 ?_
 refine ent_seq fun _ K2 => ?_
 refine ent_seq fun _ K3 => ?_
 refine ent_cut (⟨[(3, aEx (.pointer (some ⟨b3_1, 0, none⟩))), (4, aEx (.pointer (some ⟨b4_2, 0, none⟩))), (5, aEx (.pointer (some ⟨b5_3, 0, none⟩))), (22, aBool (decide ((¬ (few a 300 = true)) ∨ (¬ (few b 300 = true)))))], [oBox b5_3 27 [aInt b.cols, aSl 1 false aInts b.rows], oBox b4_2 27 [aInt a.cols, aSl 1 false aInts a.rows], oBox b3_1 24 [aInt f.P, aInt f.M, aSl 1 false aInt f.mod]]⟩) ?_ ?_
 ·refine ent_region ?_
  refine ent_o rfl (ok_call awake_ok rfl) ?_
  refine ent_o rfl (ok_not rfl) ?_
  refine emm rfl ?_
  refine ent_guardXT rfl rfl rfl rfl rfl ?_
  refine ent_o rfl (ok_loadBS (k := 1) ti27 rfl rfl rfl) ?_
  refine ent_guardXT rfl rfl rfl rfl rfl ?_
  refine ent_o rfl (ok_call (rFew_ok a 300 (by first | rfl | assumption | omega | (simp_all; done) | grind) (by first | rfl | assumption | omega | (simp_all; done) | grind)) rfl) ?_
  refine ent_guardXT rfl rfl rfl rfl rfl ?_
  refine ent_o rfl (ok_notD rfl) ?_
  refine ent_o rfl (ok_pickF rfl rfl rfl) ?_
  refine emm rfl ?_
  refine ent_guardXDf rfl rfl rfl rfl (fun hg18 => ?_) (fun hg18 => ?_)
  ·refine ent_o rfl (ok_loadBS (k := 0) ti27 rfl rfl rfl) ?_
   refine ent_guardXT rfl rfl rfl rfl (decide_eq_false hg18) ?_
   refine ent_o rfl (ok_call (rFew_ok b 300 (by first | rfl | assumption | omega | (simp_all; done) | grind) (by first | rfl | assumption | omega | (simp_all; done) | grind)) rfl) ?_
   refine ent_guardXT rfl rfl rfl rfl (decide_eq_false hg18) ?_
   refine ent_o rfl (ok_notD rfl) ?_
   refine ent_o rfl (ok_pickF rfl (decide_eq_false hg18) rfl) ?_
   refine ent_nil ?_
   exact ent_rep ⟨rfl, rfl, rfl, slot_bool (dq_Q ((or_iff_right hg18).trans Iff.rfl)), trivial⟩ rfl
  ·refine ent_guardXF rfl rfl rfl rfl (decide_eq_true hg18) ?_
   refine ent_guardXF rfl rfl rfl rfl (decide_eq_true hg18) ?_
   refine ent_o rfl (ok_pickT rfl (decide_eq_true hg18) rfl) ?_
   refine ent_nil ?_
   exact ent_rep ⟨rfl, rfl, rfl, slot_bool (dq_T rfl (Or.inl hg18)), trivial⟩ rfl
 refine ent_k K3 ?_
 refine ent_condD rfl (fun h22 => ?_) (fun h22 => ?_)
 ·refine esr rfl fun _ K4 => ?_
  refine ent_o rfl (ok_call awake_ok rfl) ?_
  refine emm rfl ?_
  refine enk K4 ?_
  refine ent_ret ?_
  exact retR1 (.inr rfl) Try.results14 (resr_tmp (res_cv rfl (cv_bool (by first | rfl | exact decide_eq_true rfl | exact decide_eq_true ⟨rfl, rfl⟩ | exact decide_eq_true ⟨⟨hse, hc0⟩, hr0⟩ | (simp [hse, hs0]; done) | (simp [hse, hs0]; exact ⟨rfl, rfl⟩)))))
 ·refine esp K2 ?_
  refine esr rfl fun _ K5 => ?_
  refine ent_o rfl (ok_loadBS (k := 2) ti24 rfl rfl rfl) ?_
  refine ent_o rfl (ok_loadBS (k := 1) ti27 rfl rfl rfl) ?_
  refine ent_o rfl (ok_loadBS (k := 0) ti27 rfl rfl rfl) ?_
  refine ent_o rfl (ok_call (mMulE_ok f a b) rfl) ?_
  refine emm rfl ?_
  refine ent_o rfl (ok_extract rfl rfl) ?_
  refine ent_o rfl (ok_extract rfl rfl) ?_
  refine ent_alloc (z := .agg #[.int .i64 0, .slice none 0 0]) [aInt 0, aEx (.slice none 0 0)] rfl zv27 rfl zc27 (fun b7_4 => ?_)
  refine ent_storeBS (k := 0) Try.sizeOf27 rfl rfl rfl (AllOne.mem ⟨(one_int _), one_sl, trivial⟩) rfl rfl ?_
  show Ent _ ⟨_, [_, _, _, _]⟩ _
  refine emm rfl ?_
  refine enk K5 ?_
  refine esr rfl fun _ K6 => ?_
  refine ent_o rfl (ok_loadBS (k := 3) ti24 rfl rfl rfl) ?_
  refine ent_o rfl (ok_loadBS (k := 2) ti27 rfl rfl rfl) ?_
  refine ent_o rfl (ok_loadBS (k := 1) ti27 rfl rfl rfl) ?_
  refine ent_o rfl (ok_call (rmMul_ok f a b) rfl) ?_
  refine emm rfl ?_
  refine ent_o rfl (ok_extract rfl rfl) ?_
  refine ent_o rfl (ok_extract rfl rfl) ?_
  refine ent_alloc (z := .agg #[.int .i64 0, .slice none 0 0]) [aInt 0, aEx (.slice none 0 0)] rfl zv27 rfl zc27 (fun b9_5 => ?_)
  refine ent_storeBS (k := 0) Try.sizeOf27 rfl rfl rfl (AllOne.mem ⟨(one_int _), one_sl, trivial⟩) rfl rfl ?_
  show Ent _ ⟨_, [_, _, _, _, _]⟩ _
  refine emm rfl ?_
  refine enk K6 ?_
  refine ent_seq fun _ K7 => ?_
  refine esr rfl fun _ K8 => ?_
  refine ent_o rfl (ok_neq rfl rfl) ?_
  refine emm rfl ?_
  refine ent_guardXT rfl rfl rfl rfl (decide_eq_false (fun hq => hq rfl)) ?_
  refine ent_o rfl (ok_loadBS (k := 1) ti27 rfl rfl rfl) ?_
  refine ent_guardXT rfl rfl rfl rfl (decide_eq_false (fun hq => hq rfl)) ?_
  refine ent_o rfl (ok_loadBS (k := 0) ti27 rfl rfl rfl) ?_
  refine ent_guardXT rfl rfl rfl rfl (decide_eq_false (fun hq => hq rfl)) ?_
  refine ent_o rfl (ok_call (rSame_ok (mulV f a b) (mulV f a b)) rfl) ?_
  refine ent_guardXT rfl rfl rfl rfl (decide_eq_false (fun hq => hq rfl)) ?_
  refine ent_o rfl (ok_not rfl) ?_
  refine ent_o rfl (ok_pickF rfl (decide_eq_false (fun hq => hq rfl)) rfl) ?_
  refine enk K8 ?_
  refine ent_condFP rfl (by rw [show (decide ((mulV f a b) = (mulV f a b))) = true from (decide_eq_true rfl)]; rfl) ?_
  refine esp K7 ?_
  refine esr rfl fun _ K9 => ?_
  refine ent_o rfl (ok_loadBS (k := 4) ti24 rfl rfl rfl) ?_
  refine ent_o rfl (ok_loadBS (k := 3) ti27 rfl rfl rfl) ?_
  refine ent_o rfl (ok_call (mTranspose_ok f a) rfl) ?_
  refine emm rfl ?_
  refine ent_o rfl (ok_extract rfl rfl) ?_
  refine ent_o rfl (ok_extract rfl rfl) ?_
  refine ent_storeBS (k := 1) Try.sizeOf27 rfl rfl rfl (AllOne.mem ⟨(one_int _), one_sl, trivial⟩) rfl rfl ?_
  show Ent _ ⟨_, [_, _, _, _, _]⟩ _
  refine emm rfl ?_
  refine enk K9 ?_
  refine esr rfl fun _ K10 => ?_
  refine ent_o rfl (ok_loadBS (k := 4) ti24 rfl rfl rfl) ?_
  refine ent_o rfl (ok_loadBS (k := 3) ti27 rfl rfl rfl) ?_
  refine ent_o rfl (ok_call (rTranspose_ok f a) rfl) ?_
  refine emm rfl ?_
  refine ent_o rfl (ok_extract rfl rfl) ?_
  refine ent_o rfl (ok_extract rfl rfl) ?_
  refine ent_storeBS (k := 0) Try.sizeOf27 rfl rfl rfl (AllOne.mem ⟨(one_int _), one_sl, trivial⟩) rfl rfl ?_
  show Ent _ ⟨_, [_, _, _, _, _]⟩ _
  refine emm rfl ?_
  refine enk K10 ?_
  refine ent_seq fun _ K11 => ?_
  refine esr rfl fun _ K12 => ?_
  refine ent_o rfl (ok_neq rfl rfl) ?_
  refine emm rfl ?_
  refine ent_guardXT rfl rfl rfl rfl (decide_eq_false (fun hq => hq rfl)) ?_
  refine ent_o rfl (ok_loadBS (k := 1) ti27 rfl rfl rfl) ?_
  refine ent_guardXT rfl rfl rfl rfl (decide_eq_false (fun hq => hq rfl)) ?_
  refine ent_o rfl (ok_loadBS (k := 0) ti27 rfl rfl rfl) ?_
  refine ent_guardXT rfl rfl rfl rfl (decide_eq_false (fun hq => hq rfl)) ?_
  refine ent_o rfl (ok_call (rSame_ok (turM f a) (turM f a)) rfl) ?_
  refine ent_guardXT rfl rfl rfl rfl (decide_eq_false (fun hq => hq rfl)) ?_
  refine ent_o rfl (ok_not rfl) ?_
  refine ent_o rfl (ok_pickF rfl (decide_eq_false (fun hq => hq rfl)) rfl) ?_
  refine enk K12 ?_
  refine ent_condFP rfl (by rw [show (decide ((turM f a) = (turM f a))) = true from (decide_eq_true rfl)]; rfl) ?_
  refine esp K11 ?_
  refine esr rfl fun _ K13 => ?_
  refine ent_o rfl (ok_loadBS (k := 4) ti24 rfl rfl rfl) ?_
  refine ent_o rfl (ok_loadBS (k := 3) ti27 rfl rfl rfl) ?_
  refine ent_o rfl (ok_loadBS (k := 2) ti27 rfl rfl rfl) ?_
  refine ent_o rfl (ok_loadBS (k := 3) ti27 rfl rfl rfl) ?_
  refine ent_o rfl (ok_build3 (enc := aMat) (y1 := (⟨a.cols, a.rows⟩ : Mat)) (y2 := (⟨b.cols, b.rows⟩ : Mat)) (y3 := (⟨a.cols, a.rows⟩ : Mat)) vt67 (by decide) rfl rfl rfl (elem_agg (AllOne.mem ⟨(one_int _), one_sl, trivial⟩)) (elem_agg (AllOne.mem ⟨(one_int _), one_sl, trivial⟩)) (elem_agg (AllOne.mem ⟨(one_int _), one_sl, trivial⟩)) (by decide)) ?_
  refine ent_o rfl (ok_call (mStack_ok f [(⟨a.cols, a.rows⟩ : Mat), (⟨b.cols, b.rows⟩ : Mat), (⟨a.cols, a.rows⟩ : Mat)] (by first | rfl | assumption | omega | (simp_all; done) | grind)) rfl) ?_
  refine emm rfl ?_
  refine ent_o rfl (ok_extract rfl rfl) ?_
  refine ent_o rfl (ok_extract rfl rfl) ?_
  refine ent_storeBS (k := 1) Try.sizeOf27 rfl rfl rfl (AllOne.mem ⟨(one_int _), one_sl, trivial⟩) rfl rfl ?_
  show Ent _ ⟨_, [_, _, _, _, _]⟩ _
  refine emm rfl ?_
  refine enk K13 ?_
  refine esr rfl fun _ K14 => ?_
  refine ent_o rfl (ok_loadBS (k := 4) ti24 rfl rfl rfl) ?_
  refine ent_o rfl (ok_loadBS (k := 3) ti27 rfl rfl rfl) ?_
  refine ent_o rfl (ok_loadBS (k := 2) ti27 rfl rfl rfl) ?_
  refine ent_o rfl (ok_loadBS (k := 3) ti27 rfl rfl rfl) ?_
  refine ent_o rfl (ok_build3 (enc := aMat) (y1 := (⟨a.cols, a.rows⟩ : Mat)) (y2 := (⟨b.cols, b.rows⟩ : Mat)) (y3 := (⟨a.cols, a.rows⟩ : Mat)) vt67 (by decide) rfl rfl rfl (elem_agg (AllOne.mem ⟨(one_int _), one_sl, trivial⟩)) (elem_agg (AllOne.mem ⟨(one_int _), one_sl, trivial⟩)) (elem_agg (AllOne.mem ⟨(one_int _), one_sl, trivial⟩)) (by decide)) ?_
  refine ent_o rfl (ok_call (rStack_ok f [(⟨a.cols, a.rows⟩ : Mat), (⟨b.cols, b.rows⟩ : Mat), (⟨a.cols, a.rows⟩ : Mat)] (by first | rfl | assumption | omega | (simp_all; done) | grind)) rfl) ?_
  refine emm rfl ?_
  refine ent_o rfl (ok_extract rfl rfl) ?_
  refine ent_o rfl (ok_extract rfl rfl) ?_
  refine ent_storeBS (k := 0) Try.sizeOf27 rfl rfl rfl (AllOne.mem ⟨(one_int _), one_sl, trivial⟩) rfl rfl ?_
  show Ent _ ⟨_, [_, _, _, _, _]⟩ _
  refine emm rfl ?_
  refine enk K14 ?_
  refine ent_seq fun _ K15 => ?_
  refine esr rfl fun _ K16 => ?_
  refine ent_o rfl (ok_neq rfl rfl) ?_
  refine emm rfl ?_
  refine ent_guardXT rfl rfl rfl rfl (decide_eq_false (fun hq => hq rfl)) ?_
  refine ent_o rfl (ok_loadBS (k := 1) ti27 rfl rfl rfl) ?_
  refine ent_guardXT rfl rfl rfl rfl (decide_eq_false (fun hq => hq rfl)) ?_
  refine ent_o rfl (ok_loadBS (k := 0) ti27 rfl rfl rfl) ?_
  refine ent_guardXT rfl rfl rfl rfl (decide_eq_false (fun hq => hq rfl)) ?_
  refine ent_o rfl (ok_call (rSame_ok (stkM f [(⟨a.cols, a.rows⟩ : Mat), (⟨b.cols, b.rows⟩ : Mat), (⟨a.cols, a.rows⟩ : Mat)]) (stkM f [(⟨a.cols, a.rows⟩ : Mat), (⟨b.cols, b.rows⟩ : Mat), (⟨a.cols, a.rows⟩ : Mat)])) rfl) ?_
  refine ent_guardXT rfl rfl rfl rfl (decide_eq_false (fun hq => hq rfl)) ?_
  refine ent_o rfl (ok_not rfl) ?_
  refine ent_o rfl (ok_pickF rfl (decide_eq_false (fun hq => hq rfl)) rfl) ?_
  refine enk K16 ?_
  refine ent_condFP rfl (by rw [show (decide ((stkM f [(⟨a.cols, a.rows⟩ : Mat), (⟨b.cols, b.rows⟩ : Mat), (⟨a.cols, a.rows⟩ : Mat)]) = (stkM f [(⟨a.cols, a.rows⟩ : Mat), (⟨b.cols, b.rows⟩ : Mat), (⟨a.cols, a.rows⟩ : Mat)]))) = true from (decide_eq_true rfl)]; rfl) ?_
  refine esp K15 ?_
  refine esr rfl fun _ K17 => ?_
  refine ent_o rfl (ok_loadBS (k := 4) ti24 rfl rfl rfl) ?_
  refine ent_o rfl (ok_loadBS (k := 3) ti27 rfl rfl rfl) ?_
  refine ent_o rfl (ok_loadBS (k := 2) ti27 rfl rfl rfl) ?_
  refine ent_o rfl (ok_call (mBeside_ok f a b) rfl) ?_
  refine emm rfl ?_
  refine ent_o rfl (ok_extract rfl rfl) ?_
  refine ent_o rfl (ok_extract rfl rfl) ?_
  refine ent_storeBS (k := 1) Try.sizeOf27 rfl rfl rfl (AllOne.mem ⟨(one_int _), one_sl, trivial⟩) rfl rfl ?_
  show Ent _ ⟨_, [_, _, _, _, _]⟩ _
  refine emm rfl ?_
  refine enk K17 ?_
  refine esr rfl fun _ K18 => ?_
  refine ent_o rfl (ok_loadBS (k := 4) ti24 rfl rfl rfl) ?_
  refine ent_o rfl (ok_loadBS (k := 3) ti27 rfl rfl rfl) ?_
  refine ent_o rfl (ok_loadBS (k := 2) ti27 rfl rfl rfl) ?_
  refine ent_o rfl (ok_call (rBeside_ok f a b) rfl) ?_
  refine emm rfl ?_
  refine ent_o rfl (ok_extract rfl rfl) ?_
  refine ent_o rfl (ok_extract rfl rfl) ?_
  refine ent_storeBS (k := 0) Try.sizeOf27 rfl rfl rfl (AllOne.mem ⟨(one_int _), one_sl, trivial⟩) rfl rfl ?_
  show Ent _ ⟨_, [_, _, _, _, _]⟩ _
  refine emm rfl ?_
  refine enk K18 ?_
  refine ent_seq fun _ K19 => ?_
  refine esr rfl fun _ K20 => ?_
  refine ent_o rfl (ok_neq rfl rfl) ?_
  refine emm rfl ?_
  refine ent_guardXT rfl rfl rfl rfl (decide_eq_false (fun hq => hq rfl)) ?_
  refine ent_o rfl (ok_loadBS (k := 1) ti27 rfl rfl rfl) ?_
  refine ent_guardXT rfl rfl rfl rfl (decide_eq_false (fun hq => hq rfl)) ?_
  refine ent_o rfl (ok_loadBS (k := 0) ti27 rfl rfl rfl) ?_
  refine ent_guardXT rfl rfl rfl rfl (decide_eq_false (fun hq => hq rfl)) ?_
  refine ent_o rfl (ok_call (rSame_ok (besM f a b) (besM f a b)) rfl) ?_
  refine ent_guardXT rfl rfl rfl rfl (decide_eq_false (fun hq => hq rfl)) ?_
  refine ent_o rfl (ok_not rfl) ?_
  refine ent_o rfl (ok_pickF rfl (decide_eq_false (fun hq => hq rfl)) rfl) ?_
  refine enk K20 ?_
  refine ent_condFP rfl (by rw [show (decide ((besM f a b) = (besM f a b))) = true from (decide_eq_true rfl)]; rfl) ?_
  refine esp K19 ?_
  refine ent_seq fun _ K21 => ?_
  have hs0 : stkM f [] = Mat.no := stkM_nil rfl
  have hse : stkE f [] = fErr f := by unfold stkE opErr fErr; by_cases h : FOk f <;> simp [h, matsErr]
  have hc0 : (stkM f []).cols = 0 := by rw [hs0]; rfl
  have hr0 : ((stkM f []).rows.length : Int) = 0 := by rw [hs0]; rfl
  refine ent_region ?_
  refine ent_o rfl (ok_loadBS (k := 4) ti24 rfl rfl rfl) ?_
  refine ent_o rfl (ok_callA (mStack_ok f [] (by first | rfl | assumption | omega | (simp_all; done) | grind)) ⟨arg_a rfl (cv_id sub_refl), arg_a rfl (cv_nil (fun h => by cases h) (by first | rfl | assumption | omega | (simp_all; done) | grind)), trivial⟩) ?_
  refine emm rfl ?_
  refine ent_o rfl (ok_extract rfl rfl) ?_
  refine ent_o rfl (ok_extract rfl rfl) ?_
  refine ent_storeBS (k := 1) Try.sizeOf27 rfl rfl rfl (AllOne.mem ⟨(one_int _), one_sl, trivial⟩) rfl rfl ?_
  show Ent _ ⟨_, [_, _, _, _, _]⟩ _
  refine emm rfl ?_
  refine enk K21 ?_
  refine ent_seq fun _ K22 => ?_
  refine ent_cut (⟨[(6, aBool (decide ((((stkE f []) = (fErr f)) ∧ (((stkM f []).cols) = 0)) ∧ ((↑((stkM f []).rows).length : Int) = 0))))], [oBox b9_5 27 [aInt ((besM f a b).cols), aSl 1 false aInts ((besM f a b).rows)], oBox b7_4 27 [aInt ((stkM f []).cols), aSl 1 false aInts ((stkM f []).rows)], oBox b5_3 27 [aInt b.cols, aSl 1 false aInts b.rows], oBox b4_2 27 [aInt a.cols, aSl 1 false aInts a.rows], oBox b3_1 24 [aInt f.P, aInt f.M, aSl 1 false aInt f.mod]]⟩) ?_ ?_
  ·refine ent_region ?_
   refine emm rfl ?_
   refine ent_o rfl (ok_loadBS (k := 4) ti24 rfl rfl rfl) ?_
   refine ent_o rfl (ok_call (rCheck_ok f) rfl) ?_
   refine ent_o rfl (ok_eql rfl rfl) ?_
   refine emm rfl ?_
   refine ent_guardXDt rfl rfl rfl rfl (fun hg127 => ?_) (fun hg127 => ?_)
   ·refine ent_o rfl (ok_fieldAddrEx Try.runUnderlying27 rfl Try.sizeOf3 (by decide) rfl) ?_
    refine ent_guardXT rfl rfl rfl rfl (decide_eq_true hg127) ?_
    refine ent_o rfl (ok_loadB (k := 1) Try.isAgg3 rfl rfl rfl) ?_
    refine ent_guardXT rfl rfl rfl rfl (decide_eq_true hg127) ?_
    refine ent_o rfl (ok_eql rfl rfl) ?_
    refine ent_o rfl (ok_pickT rfl (decide_eq_true hg127) rfl) ?_
    refine emm rfl ?_
    refine ent_guardXDt rfl rfl rfl rfl (fun hg132 => ?_) (fun hg132 => ?_)
    ·refine ent_o rfl (ok_fieldAddrEx Try.runUnderlying27 rfl Try.sizeOf25 (by decide) rfl) ?_
     refine ent_guardXT rfl rfl rfl rfl (decide_eq_true hg132) ?_
     refine ent_o rfl (ok_loadB (k := 1) Try.isAgg25 rfl rfl rfl) ?_
     refine ent_guardXT rfl rfl rfl rfl (decide_eq_true hg132) ?_
     refine ent_o rfl (ok_len rfl Try.runUnderlying25 rfl) ?_
     refine ent_guardXT rfl rfl rfl rfl (decide_eq_true hg132) ?_
     refine ent_o rfl (ok_eql rfl rfl) ?_
     refine ent_o rfl (ok_pickT rfl (decide_eq_true hg132) rfl) ?_
     refine emm rfl ?_
     refine ent_nil ?_
     exact ent_rep ⟨slot_bool (dq_Q ((and_iff_right ⟨hg127, hg132⟩).trans Iff.rfl)), trivial⟩ rfl
    ·refine ent_guardXF rfl rfl rfl rfl (decide_eq_false hg132) ?_
     refine ent_guardXF rfl rfl rfl rfl (decide_eq_false hg132) ?_
     refine ent_guardXF rfl rfl rfl rfl (decide_eq_false hg132) ?_
     refine ent_o rfl (ok_pickF rfl (decide_eq_false hg132) rfl) ?_
     refine emm rfl ?_
     refine ent_nil ?_
     exact ent_rep ⟨slot_bool (dq_F rfl (fun h => (fun h => hg132 h.2) h.1)), trivial⟩ rfl
   ·refine ent_guardXF rfl rfl rfl rfl (decide_eq_false hg127) ?_
    refine ent_guardXF rfl rfl rfl rfl (decide_eq_false hg127) ?_
    refine ent_o rfl (ok_pickF rfl (decide_eq_false hg127) rfl) ?_
    refine emm rfl ?_
    refine ent_guardXF rfl rfl rfl rfl rfl ?_
    refine ent_guardXF rfl rfl rfl rfl rfl ?_
    refine ent_guardXF rfl rfl rfl rfl rfl ?_
    refine ent_guardXF rfl rfl rfl rfl rfl ?_
    refine ent_o rfl (ok_pickF rfl rfl rfl) ?_
    refine emm rfl ?_
    refine ent_nil ?_
    exact ent_rep ⟨slot_bool (dq_F rfl (fun h => (fun h => hg127 h.1) h.1)), trivial⟩ rfl
  refine ent_k K22 ?_
  refine ent_ret ?_
  exact retR1 (.inr rfl) Try.results14 (resr_tmp (res_cv rfl (cv_bool (by first | rfl | exact decide_eq_true rfl | exact decide_eq_true ⟨rfl, rfl⟩ | exact decide_eq_true ⟨⟨hse, hc0⟩, hr0⟩ | (simp [hse, hs0]; done) | (simp [hse, hs0]; exact ⟨rfl, rfl⟩)))))
end Go.Proofs.Ytamhdlkfhhpdpaa
