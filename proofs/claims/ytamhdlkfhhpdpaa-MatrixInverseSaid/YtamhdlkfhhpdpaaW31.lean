/-
  Facts for the law MatrixInverse.
-/
import Derived.Test.YtamhdlkfhhpdpaaProg
import Derived.Test.YtamhdlkfhhpdpaaWTab
import Derived.Test.YtamhdlkfhhpdpaaPlainOp
import Derived.Test.YtamhdlkfhhpdpaaCzLib
import Derived.Test.YtamhdlkfhhpdpaaW1
import Derived.Test.YtamhdlkfhhpdpaaW4
import Derived.Test.YtamhdlkfhhpdpaaW5
import Derived.Test.YtamhdlkfhhpdpaaW6
import Derived.Test.YtamhdlkfhhpdpaaW9
import Derived.Test.YtamhdlkfhhpdpaaW10
import Derived.Test.YtamhdlkfhhpdpaaW11
import Derived.Test.YtamhdlkfhhpdpaaW12
import Derived.Test.YtamhdlkfhhpdpaaW13
import Derived.Test.YtamhdlkfhhpdpaaW14
import Derived.Test.YtamhdlkfhhpdpaaW15
import Derived.Test.YtamhdlkfhhpdpaaW16
import Derived.Test.YtamhdlkfhhpdpaaW17
import Derived.Test.YtamhdlkfhhpdpaaW18
import Derived.Test.YtamhdlkfhhpdpaaW19
import Derived.Test.YtamhdlkfhhpdpaaW20
import Derived.Test.YtamhdlkfhhpdpaaW21
open Go Go.Cw
namespace Go.Proofs.Ytamhdlkfhhpdpaa
set_option maxRecDepth 100000
set_option linter.unusedVariables false
set_option linter.unusedSimpArgs false
theorem mMulE_ok (f : Fld) (a b : Mat)  : Ctr Try.prog 39 [aFld f, aMat a, aMat b] (aTup [aMat (mulV f a b), aInt (mulE f a b)]) := by
 refine ctr_of Try.call39 Try.func39 rfl rfl ?_
 intro w O
 refine ent_lenC 0 2 rfl rfl (fun hlen0_2 => ?_)
 refine ent_lenC 1 1 rfl rfl (fun hlen1_1 => ?_)
 refine ent_lenC 2 1 rfl rfl (fun hlen2_1 => ?_)
 refine esr rfl fun _ K1 => ?_
 refine ent_boxS rfl rfl (AllOne.mem ⟨(one_int _), (one_int _), one_sl, trivial⟩) (fun b3_1 => ?_)
 refine ent_boxS rfl rfl (AllOne.mem ⟨(one_int _), one_sl, trivial⟩) (fun b4_2 => ?_)
 refine ent_boxS rfl rfl (AllOne.mem ⟨(one_int _), one_sl, trivial⟩) (fun b5_3 => ?_)
 refine ent_alloc (z := .agg #[.int .i64 0, .slice none 0 0]) [aInt 0, aEx (.slice none 0 0)] rfl zv27 rfl zc27 (fun b6_4 => ?_)
 refine emm rfl ?_
 refine enk K1 ?_
 refine esr rfl fun _ K2 => ?_
 refine ent_o rfl (ok_loadBS (k := 3) ti24 rfl rfl rfl) ?_
 refine ent_o rfl (ok_loadBS (k := 2) ti27 rfl rfl rfl) ?_
 refine ent_o rfl (ok_loadBS (k := 1) ti27 rfl rfl rfl) ?_
 refine ent_o rfl (ok_build2 (enc := aMat) (y1 := (⟨a.cols, a.rows⟩ : Mat)) (y2 := (⟨b.cols, b.rows⟩ : Mat)) vt67 (by decide) rfl rfl (elem_agg (AllOne.mem ⟨(one_int _), one_sl, trivial⟩)) (elem_agg (AllOne.mem ⟨(one_int _), one_sl, trivial⟩)) (by decide)) ?_
 rcases Classical.em (twoErr f a b = 0) with hm0 | hm0
 ·refine ent_o rfl (ok_call (open_ok f [(⟨a.cols, a.rows⟩ : Mat), (⟨b.cols, b.rows⟩ : Mat)] (mErr_zero.1 (twoErr_zero.1 hm0).1).1 (two_mem hm0) (by simp)) rfl) ?_
  refine emm rfl ?_
  refine ent_o rfl (ok_extract rfl rfl) ?_
  refine ent_o rfl (ok_extract rfl rfl) ?_
  refine emm rfl ?_
  refine enk K2 ?_
  refine ent_seq fun _ K3 => ?_
  refine esr rfl fun _ K4 => ?_
  refine ent_o rfl (ok_neq rfl rfl) ?_
  refine enk K4 ?_
  refine ent_condFP rfl (by decide) ?_
  refine esp K3 ?_
  refine ent_seq fun _ K5 => ?_
  refine ent_seq fun _ K6 => ?_
  have ha0 := (twoErr_zero.1 hm0).1
  have hb0 := (twoErr_zero.1 hm0).2
  have hF := (mErr_zero.1 ha0).1
  have hae := (mErr_zero.1 ha0).2
  have hbe := (mErr_zero.1 hb0).2
  have sa := mat_size hae
  have sb := mat_size hbe
  have hga := mat_good hae
  have hgb := mat_good hbe
  refine ent_region ?_
  refine ent_o rfl (ok_fieldAddrEx Try.runUnderlying27 rfl Try.sizeOf3 (by decide) rfl) ?_
  refine ent_o rfl (ok_loadB (k := 2) Try.isAgg3 rfl rfl rfl) ?_
  refine ent_o rfl (ok_fieldAddrEx Try.runUnderlying27 rfl Try.sizeOf25 (by decide) rfl) ?_
  refine ent_o rfl (ok_loadB (k := 1) Try.isAgg25 rfl rfl rfl) ?_
  refine ent_o rfl (ok_len rfl Try.runUnderlying25 rfl) ?_
  refine ent_o rfl (ok_neq rfl rfl) ?_
  refine enk K6 ?_
  refine ent_condD rfl (fun h30 => ?_) (fun h30 => ?_)
  ·have hqe : mulE f a b = 10 := mulE_bad hm0 h30
   have hq0 : mulE f a b ≠ 0 := by rw [hqe]; decide
   refine esr rfl fun _ K7 => ?_
   refine ent_o rfl (ok_build st27 (As := [aInt 0, aEx (.slice none 0 0)]) z27 (rfl)) ?_
   refine ent_storeBS (k := 0) Try.sizeOf27 rfl rfl rfl (AllOne.mem ⟨(one_int _), (one_ex rfl), trivial⟩) rfl rfl ?_
   show Ent _ ⟨_, [_, _, _, _]⟩ _
   refine emm rfl ?_
   refine enk K7 ?_
   refine ent_ret ?_
   exact retR2 (.inr rfl) Try.results39 (resr_cell (k := 0) ti27 rfl rfl rfl (cv_agg ⟨cv_int (by first | (rw [mulV_no hq0]; rfl) | (rw [mulV_ok hqk]; done) | (rw [mulV_ok hqk]; rfl) | (rw [mulV_ok hqk, mapT_all _ _ (by omega)]; done) | (rw [mulV_ok hqk, mapT_all _ _ (by omega)]; rfl)), cv_nil (fun _ => rfl) (by first | (rw [mulV_no hq0]; rfl) | (rw [mulV_ok hqk]; done) | (rw [mulV_ok hqk]; rfl) | (rw [mulV_ok hqk, mapT_all _ _ (by omega)]; done) | (rw [mulV_ok hqk, mapT_all _ _ (by omega)]; rfl)), trivial⟩)) (resr_tmp (res_cv rfl (cv_int (by first | exact hqk.symm | exact hqe.symm | (rw [hqe]; exact opErr_two f a b)))))
  ·have hqk : mulE f a b = 0 := mulE_ok hm0 h30
   have hmm := Classical.not_not.1 h30
   refine esp K5 ?_
   refine esr rfl fun _ K8 => ?_
   refine ent_o rfl (ok_fieldAddrEx Try.runUnderlying27 rfl Try.sizeOf3 (by decide) rfl) ?_
   refine ent_o rfl (ok_loadB (k := 1) Try.isAgg3 rfl rfl rfl) ?_
   refine ent_o rfl (ok_build st27 (As := [aInt 0, aEx (.slice none 0 0)]) z27 (⟨0, 1, rfl, .inl ⟨rfl, _, rfl, (one_int _), rfl, rfl⟩⟩)) ?_
   refine ent_alloc (z := .agg #[.int .i64 0, .slice none 0 0]) [aInt 0, aEx (.slice none 0 0)] rfl zv27 rfl zc27 (fun b10_5 => ?_)
   refine ent_storeBS (k := 0) Try.sizeOf27 rfl rfl rfl (AllOne.mem ⟨(one_int _), (one_ex rfl), trivial⟩) rfl rfl ?_
   show Ent _ ⟨_, [_, _, _, _, _]⟩ _
   refine enk K8 ?_
   refine ent_seq fun _ K9 => ?_
   refine esr rfl fun _ K10 => ?_
   refine ent_o rfl (ok_fieldAddrEx Try.runUnderlying27 rfl Try.sizeOf25 (by decide) rfl) ?_
   refine ent_o rfl (ok_loadB (k := 3) Try.isAgg25 rfl rfl rfl) ?_
   refine ent_o rfl (ok_len rfl Try.runUnderlying25 rfl) ?_
   refine emm rfl ?_
   refine enk K10 ?_
   refine ent_block ?_
   refine ent_open 22 1 false aInts (fun _ => rfl) ?_
   refine ent_loop (fun (ss : Int × Option Nat × Nat) => match ss with | (i, rr7, cc7) => (⟨[(5, aEx (.pointer (some ⟨b5_3, 0, none⟩))), (6, aEx (.pointer (some ⟨b6_4, 0, none⟩))), (8, aGF f), (10, aEx (.pointer (some ⟨b10_5, 0, none⟩))), (36, aSl 1 false aInts a.rows), (37, aInt (↑a.rows.length : Int)), (38, aInt i)], [oVec rr7 cc7 22 1 false aInts (mapT (fun row => comb f row b.rows b.cols) a.rows i), oBox b10_5 27 [aInt b.cols, aEx (vec rr7 ((mapT (fun row => comb f row b.rows b.cols) a.rows i).length) cc7)], oBox b6_4 27 [aInt 0, aEx (.slice none 0 0)], oBox b5_3 27 [aInt b.cols, aSl 1 false aInts b.rows], oBox b4_2 27 [aInt a.cols, aSl 1 false aInts a.rows], oBox b3_1 24 [aInt f.P, aInt f.M, aSl 1 false aInt f.mod]]⟩ : St)) (fun (ss : Int × Option Nat × Nat) => match ss with | (i, rr7, cc7) => (0 ≤ i) ∧ (i ≤ a.rows.length)) (fun (ss : Int × Option Nat × Nat) => match ss with | (i, rr7, cc7) => (a.rows.length - i).toNat) (0, none, 0) ⟨(by first | rfl | assumption | omega | (simp_all; done) | grind), (by first | rfl | assumption | omega | (simp_all; done) | grind)⟩ (ent_rep ⟨rfl, rfl, rfl, rfl, rfl, rfl, slot_av (av_int (show 0 = (0 : Int) by first | rfl | assumption | omega | (simp_all; done) | grind)), trivial⟩ (own_cons (own_vec (show mapT (fun row => comb f row b.rows b.cols) a.rows (0 : Int) = [] by first | rfl | simp [mapT_zero])) (own_cons (own_box (av_cons rfl (av_cons ((by first | rfl | simp [mapT_zero])) (rfl)))) (rfl)))) ?_
   rintro ⟨i, rr7, cc7⟩ ⟨h0, h1⟩
   show Ent _ ⟨_, [_, _, _, _, _, _]⟩ _
   have lf := length_mapT (fun row => comb f row b.rows b.cols) a.rows (i := i) (by omega)
   refine esr rfl fun _ K11 => ?_
   refine ent_o rfl (ok_lss rfl rfl) ?_
   refine enk K11 ?_
   refine ent_seq fun _ K12 => ?_
   refine ent_condD rfl (fun h39 => ?_) (fun h39 => ?_)
   ·refine esp K12 ?_
    refine ent_seq fun _ K13 => ?_
    refine ent_block ?_
    refine esr rfl fun _ K14 => ?_
    refine ent_o rfl (ok_index [] sl25 rfl rfl (by omega) (by omega)) ?_
    refine ent_o rfl (ok_load ti22 rfl) ?_
    refine emm rfl ?_
    refine enk K14 ?_
    refine ent_draw 10 mixed (by kernel_rfl) (by kernel_rfl) (by kernel_rfl) ?_
    refine dw_o rfl (ok_fieldAddrEx Try.runUnderlying27 rfl Try.sizeOf25 (by decide) rfl) ?_
    refine dw_o rfl (ok_loadB (k := 1) Try.isAgg25 rfl rfl rfl) ?_
    refine dw_o rfl (ok_move rfl) ?_
    refine dw_o rfl (ok_move rfl) ?_
    refine dw_o rfl (ok_fieldAddrEx Try.runUnderlying27 rfl Try.sizeOf25 (by decide) rfl) ?_
    refine dw_o rfl (ok_loadB (k := 3) Try.isAgg25 rfl rfl rfl) ?_
    refine dw_o rfl (ok_fieldAddrEx Try.runUnderlying27 rfl Try.sizeOf3 (by decide) rfl) ?_
    refine dw_o rfl (ok_loadB (k := 3) Try.isAgg3 rfl rfl rfl) ?_
    refine dw_o rfl (ok_call (CtrF.ctr (CtrF.sl (vec_ok f (ix [] a.rows i) b.rows b.cols (by first | rfl | assumption | omega | (simp_all; done) | grind) (by first | rfl | assumption | omega | (simp_all; done) | grind) (by first | rfl | assumption | omega | (simp_all; done) | grind) (by have := row_len hae h0 h39; omega) (fun i i0 i1 => row_len hbe i0 i1)))) rfl) ?_
    refine dw_o rfl (ok_build1 (enc := aInts) (y := comb f (ix [] a.rows i) b.rows b.cols) vt25 rfl (elem_one one_sl) (by decide)) ?_
    refine dw_nil ?_
    refine ent_appendS (k := 0) rfl vt25 rfl rfl (by first | rfl | assumption | (simp; done) | (simp_all; done) | omega) rfl (cv_id sub_refl) (by first | omega | (simp only [List.length_append, List.length_cons, List.length_nil]; omega) | (simp; omega)) (by first | omega | (simp only [List.length_append, List.length_cons, List.length_nil]; omega) | (simp; omega)) (fun r52_7 cr52_7 => ?_)
    refine ent_o rfl (ok_fieldAddrEx Try.runUnderlying27 rfl Try.sizeOf25 (by decide) rfl) ?_
    refine ent_storeB (k := 1) Try.sizeOf25 rfl rfl rfl (one_ex rfl) rfl ?_
    refine enk K13 ?_
    refine ent_region ?_
    refine ent_o rfl (ok_add rfl rfl (by omega) (by omega)) ?_
    refine emm rfl ?_
    refine ent_nil ?_
    refine ent_again (s := (i, rr7, cc7)) (i + 1, r52_7, cr52_7) ⟨(by first | rfl | assumption | omega | (simp_all; done) | grind), (by first | rfl | assumption | omega | (simp_all; done) | grind)⟩ (by first | omega | (dsimp only; omega)) (ent_rep ⟨rfl, rfl, rfl, rfl, rfl, rfl, rfl, trivial⟩ (own_cons (own_vec (show mapT (fun row => comb f row b.rows b.cols) a.rows (i + 1) = (mapT (fun row => comb f row b.rows b.cols) a.rows i) ++ [comb f (ix [] a.rows i) b.rows b.cols] by exact mapT_succ [] _ a.rows h0 h39)) (own_cons (own_box (av_cons rfl (av_cons (av_vec (congrArg List.length (show mapT (fun row => comb f row b.rows b.cols) a.rows (i + 1) = (mapT (fun row => comb f row b.rows b.cols) a.rows i) ++ [comb f (ix [] a.rows i) b.rows b.cols] by exact mapT_succ [] _ a.rows h0 h39))) (rfl)))) (rfl))))
   ·refine ent_exit ?_
    refine ent_k K9 ?_
    refine esr rfl fun _ K15 => ?_
    refine ent_o rfl (ok_loadBS (k := 1) ti27 rfl rfl rfl) ?_
    refine ent_storeBS (k := 2) Try.sizeOf27 rfl rfl rfl (AllOne.mem ⟨(one_int _), (one_ex rfl), trivial⟩) rfl rfl ?_
    show Ent _ ⟨_, [_, _, _, _, _, _]⟩ _
    refine emm rfl ?_
    refine enk K15 ?_
    refine ent_ret ?_
    exact retR2 (.inr rfl) Try.results39 (resr_cell (k := 2) ti27 rfl rfl rfl (cv_agg ⟨cv_int (by first | (rw [mulV_no hq0]; rfl) | (rw [mulV_ok hqk]; done) | (rw [mulV_ok hqk]; rfl) | (rw [mulV_ok hqk, mapT_all _ _ (by omega)]; done) | (rw [mulV_ok hqk, mapT_all _ _ (by omega)]; rfl)), cv_vec (k := 0) (off_x rfl) (by first | rfl | assumption | (simp; done) | (simp_all; done) | omega) (by first | (rw [mulV_no hq0]; rfl) | (rw [mulV_ok hqk]; done) | (rw [mulV_ok hqk]; rfl) | (rw [mulV_ok hqk, mapT_all _ _ (by omega)]; done) | (rw [mulV_ok hqk, mapT_all _ _ (by omega)]; rfl)), trivial⟩)) (resr_tmp (res_cv rfl (cv_int (by first | exact hqk.symm | exact hqe.symm | (rw [hqe]; exact opErr_two f a b)))))
 ·refine ent_o rfl (ok_call (open_no f [(⟨a.cols, a.rows⟩ : Mat), (⟨b.cols, b.rows⟩ : Mat)] (by rw [opErr_two]; exact hm0)) rfl) ?_
  refine emm rfl ?_
  refine ent_o rfl (ok_extract rfl rfl) ?_
  refine ent_o rfl (ok_extract rfl rfl) ?_
  refine emm rfl ?_
  refine enk K2 ?_
  refine ent_seq fun _ K16 => ?_
  refine esr rfl fun _ K17 => ?_
  refine ent_o rfl (ok_neq rfl rfl) ?_
  refine enk K17 ?_
  refine ent_condD rfl (fun h22 => ?_) (fun h22 => ?_)
  ·have hqe : mulE f a b = twoErr f a b := mulE_no hm0
   have hq0 : mulE f a b ≠ 0 := by rw [hqe]; exact hm0
   refine esr rfl fun _ K18 => ?_
   refine ent_o rfl (ok_build st27 (As := [aInt 0, aEx (.slice none 0 0)]) z27 (rfl)) ?_
   refine emm rfl ?_
   refine ent_storeBS (k := 0) Try.sizeOf27 rfl rfl rfl (AllOne.mem ⟨(one_int _), (one_ex rfl), trivial⟩) rfl rfl ?_
   show Ent _ ⟨_, [_, _, _, _]⟩ _
   refine emm rfl ?_
   refine enk K18 ?_
   refine ent_ret ?_
   exact retR2 (.inr rfl) Try.results39 (resr_cell (k := 0) ti27 rfl rfl rfl (cv_agg ⟨cv_int (by first | (rw [mulV_no hq0]; rfl) | (rw [mulV_ok hqk]; done) | (rw [mulV_ok hqk]; rfl) | (rw [mulV_ok hqk, mapT_all _ _ (by omega)]; done) | (rw [mulV_ok hqk, mapT_all _ _ (by omega)]; rfl)), cv_nil (fun _ => rfl) (by first | (rw [mulV_no hq0]; rfl) | (rw [mulV_ok hqk]; done) | (rw [mulV_ok hqk]; rfl) | (rw [mulV_ok hqk, mapT_all _ _ (by omega)]; done) | (rw [mulV_ok hqk, mapT_all _ _ (by omega)]; rfl)), trivial⟩)) (resr_tmp (res_cv rfl (cv_int (by first | exact hqk.symm | exact hqe.symm | (rw [hqe]; exact opErr_two f a b)))))
  ·exact absurd (Classical.not_not.1 h22) (by rw [opErr_two]; exact hm0)

end Go.Proofs.Ytamhdlkfhhpdpaa

