/-
  Facts for the law MatrixProducts.
-/
import Derived.Test.YtamhdlkfhhpdpaaProg
import Derived.Test.YtamhdlkfhhpdpaaWTab
import Derived.Test.YtamhdlkfhhpdpaaPlainOp
import Derived.Test.YtamhdlkfhhpdpaaCzLib
import Derived.Test.YtamhdlkfhhpdpaaW1
import Derived.Test.YtamhdlkfhhpdpaaW4
import Derived.Test.YtamhdlkfhhpdpaaW5
import Derived.Test.YtamhdlkfhhpdpaaW6
import Derived.Test.YtamhdlkfhhpdpaaW9
import Derived.Test.YtamhdlkfhhpdpaaW10
import Derived.Test.YtamhdlkfhhpdpaaW11
import Derived.Test.YtamhdlkfhhpdpaaW12
import Derived.Test.YtamhdlkfhhpdpaaW13
import Derived.Test.YtamhdlkfhhpdpaaW14
import Derived.Test.YtamhdlkfhhpdpaaW15
import Derived.Test.YtamhdlkfhhpdpaaW16
import Derived.Test.YtamhdlkfhhpdpaaW17
import Derived.Test.YtamhdlkfhhpdpaaW18
import Derived.Test.YtamhdlkfhhpdpaaW19
import Derived.Test.YtamhdlkfhhpdpaaW20
import Derived.Test.YtamhdlkfhhpdpaaW21
open Go Go.Cw
namespace Go.Proofs.Ytamhdlkfhhpdpaa
set_option maxRecDepth 100000
set_option linter.unusedVariables false
set_option linter.unusedSimpArgs false
theorem mMulE_ok (f : Fld) (a b : Mat)  : Ctr Try.prog 39 [aFld f, aMat a, aMat b] (aTup [aMat (mulV f a b), aInt (mulE f a b)]) := by
 refine ctr_of Try.call39 Try.func39 rfl rfl ?_
 intro w O
 refine ent_lenC 0 2 rfl rfl (fun hlen0_2 => ?_)
 refine ent_lenC 1 1 rfl rfl (fun hlen1_1 => ?_)
 refine ent_lenC 2 1 rfl rfl (fun hlen2_1 => ?_)
 refine esr rfl fun _ K1 => ?_
 refine ent_boxS rfl rfl (AllOne.mem ⟨(one_int _), (one_int _), one_sl, trivial⟩) (fun b3_1 => ?_)
 refine ent_boxS rfl rfl (AllOne.mem ⟨(one_int _), one_sl, trivial⟩) (fun b4_2 => ?_)
 refine ent_boxS rfl rfl (AllOne.mem ⟨(one_int _), one_sl, trivial⟩) (fun b5_3 => ?_)
 refine ent_alloc (z := .agg #[.int .i64 0, .slice none 0 0]) [aInt 0, aEx (.slice none 0 0)] rfl zv27 rfl zc27 (fun b6_4 => ?_)
 refine emm rfl ?_
 refine enk K1 ?_
 refine esr rfl fun _ K2 => ?_
 refine ent_o rfl (ok_loadBS (k := 3) ti24 rfl rfl rfl) ?_
 refine ent_o rfl (ok_loadBS (k := 2) ti27 rfl rfl rfl) ?_
 refine ent_o rfl (ok_loadBS (k := 1) ti27 rfl rfl rfl) ?_
 refine ent_o rfl (ok_build2 (enc := aMat) (y1 := (⟨a.cols, a.rows⟩ : Mat)) (y2 := (⟨b.cols, b.rows⟩ : Mat)) vt67 (by decide) rfl rfl (elem_agg (AllOne.mem ⟨(one_int _), one_sl, trivial⟩)) (elem_agg (AllOne.mem ⟨(one_int _), one_sl, trivial⟩)) (by decide)) ?_
 rcases Classical.em (twoErr f a b = 0) with hm0 | hm0
 ·refine ent_o rfl (ok_call (open_ok f [(⟨a.cols, a.rows⟩ : Mat), (⟨b.cols, b.rows⟩ : Mat)] (mErr_zero.1 (twoErr_zero.1 hm0).1).1 (two_mem hm0) (by simp)) rfl) ?_
  refine emm rfl ?_
  refine ent_o rfl (ok_extract rfl rfl) ?_
  refine ent_o rfl (ok_extract rfl rfl) ?_
  refine emm rfl ?_
  refine enk K2 ?_
  refine ent_seq fun _ K3 => ?_
  refine esr rfl fun _ K4 => ?_
  refine ent_o rfl (ok_neq rfl rfl) ?_
  refine enk K4 ?_
  refine ent_condFP rfl (by decide) ?_
  refine esp K3 ?_
  refine ent_seq fun _ K5 => ?_
  refine ent_seq fun _ K6 => ?_
  have ha0 := (twoErr_zero.1 hm0).1
  have hb0 := (twoErr_zero.1 hm0).2
  have hF := (mErr_zero.1 ha0).1
  have hae := (mErr_zero.1 ha0).2
  have hbe := (mErr_zero.1 hb0).2
  have sa := mat_size hae
  have sb := mat_size hbe
  have hga := mat_good hae
  have hgb := mat_good hbe
  refine ent_region ?_
  refine ent_o rfl (ok_fieldAddrEx Try.runUnderlying27 rfl Try.sizeOf3 (by decide) rfl) ?_
  refine ent_o rfl (ok_loadB (k := 2) Try.isAgg3 rfl rfl rfl) ?_
  refine ent_o rfl (ok_fieldAddrEx Try.runUnderlying27 rfl Try.sizeOf25 (by decide) rfl) ?_
  refine ent_o rfl (ok_loadB (k := 1) Try.isAgg25 rfl rfl rfl) ?_
  refine ent_o rfl (ok_len rfl Try.runUnderlying25 rfl) ?_
  refine ent_o rfl (ok_neq rfl rfl) ?_
  refine enk K6 ?_
  refine ent_condD rfl (fun h30 => ?_) (fun h30 => ?_)
  ·have hqe : mulE f a b = 10 := mulE_bad hm0 h30
   have hq0 : mulE f a b ≠ 0 := by rw [hqe]; decide
   refine esr rfl fun _ K7 => ?_
   refine ent_o rfl (ok_build st27 (As := [aInt 0, aEx (.slice none 0 0)]) z27 (rfl)) ?_
   refine ent_storeBS (k := 0) Try.sizeOf27 rfl rfl rfl (AllOne.mem ⟨(one_int _), (one_ex rfl), trivial⟩) rfl rfl ?_
   show Ent _ ⟨_, [_, _, _, _]⟩ _
   refine emm rfl ?_
   refine enk K7 ?_
   refine ent_ret ?_
   exact retR2 (.inr rfl) Try.results39 (resr_cell (k := 0) ti27 rfl rfl rfl (cv_agg ⟨cv_int (by first | (rw [mulV_no hq0]; rfl) | (rw [mulV_ok hqk]; done) | (rw [mulV_ok hqk]; rfl) | (rw [mulV_ok hqk, mapT_all _ _ (by omega)]; done) | (rw [mulV_ok hqk, mapT_all _ _ (by omega)]; rfl)), cv_nil (fun _ => rfl) (by first | (rw [mulV_no hq0]; rfl) | (rw [mulV_ok hqk]; done) | (rw [mulV_ok hqk]; rfl) | (rw [mulV_ok hqk, mapT_all _ _ (by omega)]; done) | (rw [mulV_ok hqk, mapT_all _ _ (by omega)]; rfl)), trivial⟩)) (resr_tmp (res_cv rfl (cv_int (by first | exact hqk.symm | exact hqe.symm | (rw [hqe]; exact opErr_two f a b)))))
  ·have hqk : mulE f a b = 0 := mulE_ok hm0 h30
   have hmm := Classical.not_not.1 h30
   refine esp K5 ?_
   refine esr rfl fun _ K8 => ?_
   refine ent_o rfl (ok_fieldAddrEx Try.runUnderlying27 rfl Try.sizeOf3 (by decide) rfl) ?_
   refine ent_o rfl (ok_loadB (k := 1) Try.isAgg3 rfl rfl rfl) ?_
   refine ent_o rfl (ok_build st27 (As := [aInt 0, aEx (.slice none 0 0)]) z27 (⟨0, 1, rfl, .inl ⟨rfl, _, rfl, (one_int _), rfl, rfl⟩⟩)) ?_
   refine ent_alloc (z := .agg #[.int .i64 0, .slice none 0 0]) [aInt 0, aEx (.slice none 0 0)] rfl zv27 rfl zc27 (fun b10_5 => ?_)
   refine ent_storeBS (k := 0) Try.sizeOf27 rfl rfl rfl (AllOne.mem ⟨(one_int _), (one_ex rfl), trivial⟩) rfl rfl ?_
   show Ent _ ⟨_, [_, _, _, _, _]⟩ _
   refine enk K8 ?_
   refine ent_seq fun _ K9 => ?_
   refine esr rfl fun _ K10 => ?_
   refine ent_o rfl (ok_fieldAddrEx Try.runUnderlying27 rfl Try.sizeOf25 (by decide) rfl) ?_
   refine ent_o rfl (ok_loadB (k := 3) Try.isAgg25 rfl rfl rfl) ?_
   refine ent_o rfl (ok_len rfl Try.runUnderlying25 rfl) ?_
   refine emm rfl ?_
   refine enk K10 ?_
   refine ent_block ?_
   refine ent_open 22 1 false aInts (fun _ => rfl) ?_
   refine ent_loop (fun (ss : Int × Option Nat × Nat) => match ss with | (i, rr7, cc7) => (⟨[(5, aEx (.pointer (some ⟨b5_3, 0, none⟩))), (6, aEx (.pointer (some ⟨b6_4, 0, none⟩))), (8, aGF f), (10, aEx (.pointer (some ⟨b10_5, 0, none⟩))), (36, aSl 1 false aInts a.rows), (37, aInt (↑a.rows.length : Int)), (38, aInt i)], [oVec rr7 cc7 22 1 false aInts (mapT (fun row => comb f row b.rows b.cols) a.rows i), oBox b10_5 27 [aInt b.cols, aEx (vec rr7 ((mapT (fun row => comb f row b.rows b.cols) a.rows i).length) cc7)], oBox b6_4 27 [aInt 0, aEx (.slice none 0 0)], oBox b5_3 27 [aInt b.cols, aSl 1 false aInts b.rows], oBox b4_2 27 [aInt a.cols, aSl 1 false aInts a.rows], oBox b3_1 24 [aInt f.P, aInt f.M, aSl 1 false aInt f.mod]]⟩ : St)) (fun (ss : Int × Option Nat × Nat) => match ss with | (i, rr7, cc7) => (0 ≤ i) ∧ (i ≤ a.rows.length)) (fun (ss : Int × Option Nat × Nat) => match ss with | (i, rr7, cc7) => (a.rows.length - i).toNat) (0, none, 0) ⟨(by first | rfl | assumption | omega | (simp_all; done) | grind), (by first | rfl | assumption | omega | (simp_all; done) | grind)⟩ (ent_rep ⟨rfl, rfl, rfl, rfl, rfl, rfl, slot_av (av_int (show 0 = (0 : Int) by first | rfl | assumption | omega | (simp_all; done) | grind)), trivial⟩ (own_cons (own_vec (show mapT (fun row => comb f row b.rows b.cols) a.rows (0 : Int) = [] by first | rfl | simp [mapT_zero])) (own_cons (own_box (av_cons rfl (av_cons ((by first | rfl | simp [mapT_zero])) (rfl)))) (rfl)))) ?_
   rintro ⟨i, rr7, cc7⟩ ⟨h0, h1⟩
   show Ent _ ⟨_, [_, _, _, _, _, _]⟩ _
   have lf := length_mapT (fun row => comb f row b.rows b.cols) a.rows (i := i) (by omega)
   refine esr rfl fun _ K11 => ?_
   refine ent_o rfl (ok_lss rfl rfl) ?_
   refine enk K11 ?_
   refine ent_seq fun _ K12 => ?_
   refine ent_condD rfl (fun h39 => ?_) (fun h39 => ?_)
   ·refine esp K12 ?_
    refine ent_seq fun _ K13 => ?_
    refine ent_block ?_
    refine esr rfl fun _ K14 => ?_
    refine ent_o rfl (ok_index [] sl25 rfl rfl (by omega) (by omega)) ?_
    refine ent_o rfl (ok_load ti22 rfl) ?_
    refine emm rfl ?_
    refine enk K14 ?_
    refine ent_draw 10 mixed (by kernel_rfl) (by kernel_rfl) (by kernel_rfl) ?_
    refine dw_o rfl (ok_fieldAddrEx Try.runUnderlying27 rfl Try.sizeOf25 (by decide) rfl) ?_
    refine dw_o rfl (ok_loadB (k := 1) Try.isAgg25 rfl rfl rfl) ?_
    refine dw_o rfl (ok_move rfl) ?_
    refine dw_o rfl (ok_move rfl) ?_
    refine dw_o rfl (ok_fieldAddrEx Try.runUnderlying27 rfl Try.sizeOf25 (by decide) rfl) ?_
    refine dw_o rfl (ok_loadB (k := 3) Try.isAgg25 rfl rfl rfl) ?_
    refine dw_o rfl (ok_fieldAddrEx Try.runUnderlying27 rfl Try.sizeOf3 (by decide) rfl) ?_
    refine dw_o rfl (ok_loadB (k := 3) Try.isAgg3 rfl rfl rfl) ?_
    refine dw_o rfl (ok_call (CtrF.ctr (CtrF.sl (vec_ok f (ix [] a.rows i) b.rows b.cols (by first | rfl | assumption | omega | (simp_all; done) | grind) (by first | rfl | assumption | omega | (simp_all; done) | grind) (by first | rfl | assumption | omega | (simp_all; done) | grind) (by have := row_len hae h0 h39; omega) (fun i i0 i1 => row_len hbe i0 i1)))) rfl) ?_
    refine dw_o rfl (ok_build1 (enc := aInts) (y := comb f (ix [] a.rows i) b.rows b.cols) vt25 rfl (elem_one one_sl) (by decide)) ?_
    refine dw_nil ?_
    refine ent_appendS (k := 0) rfl vt25 rfl rfl (by first | rfl | assumption | (simp; done) | (simp_all; done) | omega) rfl (cv_id sub_refl) (by first | omega | (simp only [List.length_append, List.length_cons, List.length_nil]; omega) | (simp; omega)) (by first | omega | (simp only [List.length_append, List.length_cons, List.length_nil]; omega) | (simp; omega)) (fun r52_7 cr52_7 => ?_)
    refine ent_o rfl (ok_fieldAddrEx Try.runUnderlying27 rfl Try.sizeOf25 (by decide) rfl) ?_
    refine ent_storeB (k := 1) Try.sizeOf25 rfl rfl rfl (one_ex rfl) rfl ?_
    refine enk K13 ?_
    refine ent_region ?_
    refine ent_o rfl (ok_add rfl rfl (by omega) (by omega)) ?_
    refine emm rfl ?_
    refine ent_nil ?_
    refine ent_again (s := (i, rr7, cc7)) (i + 1, r52_7, cr52_7) ⟨(by first | rfl | assumption | omega | (simp_all; done) | grind), (by first | rfl | assumption | omega | (simp_all; done) | grind)⟩ (by first | omega | (dsimp only; omega)) (ent_rep ⟨rfl, rfl, rfl, rfl, rfl, rfl, rfl, trivial⟩ (own_cons (own_vec (show mapT (fun row => comb f row b.rows b.cols) a.rows (i + 1) = (mapT (fun row => comb f row b.rows b.cols) a.rows i) ++ [comb f (ix [] a.rows i) b.rows b.cols] by exact mapT_succ [] _ a.rows h0 h39)) (own_cons (own_box (av_cons rfl (av_cons (av_vec (congrArg List.length (show mapT (fun row => comb f row b.rows b.cols) a.rows (i + 1) = (mapT (fun row => comb f row b.rows b.cols) a.rows i) ++ [comb f (ix [] a.rows i) b.rows b.cols] by exact mapT_succ [] _ a.rows h0 h39))) (rfl)))) (rfl))))
   ·refine ent_exit ?_
    refine ent_k K9 ?_
    refine esr rfl fun _ K15 => ?_
    refine ent_o rfl (ok_loadBS (k := 1) ti27 rfl rfl rfl) ?_
    refine ent_storeBS (k := 2) Try.sizeOf27 rfl rfl rfl (AllOne.mem ⟨(one_int _), (one_ex rfl), trivial⟩) rfl rfl ?_
    show Ent _ ⟨_, [_, _, _, _, _, _]⟩ _
    refine emm rfl ?_
    refine enk K15 ?_
    refine ent_ret ?_
    exact retR2 (.inr rfl) Try.results39 (resr_cell (k := 2) ti27 rfl rfl rfl (cv_agg ⟨cv_int (by first | (rw [mulV_no hq0]; rfl) | (rw [mulV_ok hqk]; done) | (rw [mulV_ok hqk]; rfl) | (rw [mulV_ok hqk, mapT_all _ _ (by omega)]; done) | (rw [mulV_ok hqk, mapT_all _ _ (by omega)]; rfl)), cv_vec (k := 0) (off_x rfl) (by first | rfl | assumption | (simp; done) | (simp_all; done) | omega) (by first | (rw [mulV_no hq0]; rfl) | (rw [mulV_ok hqk]; done) | (rw [mulV_ok hqk]; rfl) | (rw [mulV_ok hqk, mapT_all _ _ (by omega)]; done) | (rw [mulV_ok hqk, mapT_all _ _ (by omega)]; rfl)), trivial⟩)) (resr_tmp (res_cv rfl (cv_int (by first | exact hqk.symm | exact hqe.symm | (rw [hqe]; exact opErr_two f a b)))))
 ·refine ent_o rfl (ok_call (open_no f [(⟨a.cols, a.rows⟩ : Mat), (⟨b.cols, b.rows⟩ : Mat)] (by rw [opErr_two]; exact hm0)) rfl) ?_
  refine emm rfl ?_
  refine ent_o rfl (ok_extract rfl rfl) ?_
  refine ent_o rfl (ok_extract rfl rfl) ?_
  refine emm rfl ?_
  refine enk K2 ?_
  refine ent_seq fun _ K16 => ?_
  refine esr rfl fun _ K17 => ?_
  refine ent_o rfl (ok_neq rfl rfl) ?_
  refine enk K17 ?_
  refine ent_condD rfl (fun h22 => ?_) (fun h22 => ?_)
  ·have hqe : mulE f a b = twoErr f a b := mulE_no hm0
   have hq0 : mulE f a b ≠ 0 := by rw [hqe]; exact hm0
   refine esr rfl fun _ K18 => ?_
   refine ent_o rfl (ok_build st27 (As := [aInt 0, aEx (.slice none 0 0)]) z27 (rfl)) ?_
   refine emm rfl ?_
   refine ent_storeBS (k := 0) Try.sizeOf27 rfl rfl rfl (AllOne.mem ⟨(one_int _), (one_ex rfl), trivial⟩) rfl rfl ?_
   show Ent _ ⟨_, [_, _, _, _]⟩ _
   refine emm rfl ?_
   refine enk K18 ?_
   refine ent_ret ?_
   exact retR2 (.inr rfl) Try.results39 (resr_cell (k := 0) ti27 rfl rfl rfl (cv_agg ⟨cv_int (by first | (rw [mulV_no hq0]; rfl) | (rw [mulV_ok hqk]; done) | (rw [mulV_ok hqk]; rfl) | (rw [mulV_ok hqk, mapT_all _ _ (by omega)]; done) | (rw [mulV_ok hqk, mapT_all _ _ (by omega)]; rfl)), cv_nil (fun _ => rfl) (by first | (rw [mulV_no hq0]; rfl) | (rw [mulV_ok hqk]; done) | (rw [mulV_ok hqk]; rfl) | (rw [mulV_ok hqk, mapT_all _ _ (by omega)]; done) | (rw [mulV_ok hqk, mapT_all _ _ (by omega)]; rfl)), trivial⟩)) (resr_tmp (res_cv rfl (cv_int (by first | exact hqk.symm | exact hqe.symm | (rw [hqe]; exact opErr_two f a b)))))
  ·exact absurd (Classical.not_not.1 h22) (by rw [opErr_two]; exact hm0)

theorem mTranspose_ok (f : Fld) (m : Mat)  : Ctr Try.prog 44 [aFld f, aMat m] (aTup [aMat (turM f m), aInt (mErr f m)]) := by
 refine ctr_of Try.call44 Try.func44 rfl rfl ?_
 intro w O
 refine ent_lenC 0 2 rfl rfl (fun hlen0_2 => ?_)
 refine ent_lenC 1 1 rfl rfl (fun hlen1_1 => ?_)
 refine esr rfl fun _ K1 => ?_
 refine ent_boxS rfl rfl (AllOne.mem ⟨(one_int _), (one_int _), one_sl, trivial⟩) (fun b2_1 => ?_)
 refine ent_boxS rfl rfl (AllOne.mem ⟨(one_int _), one_sl, trivial⟩) (fun b3_2 => ?_)
 refine ent_alloc (z := .agg #[.int .i64 0, .slice none 0 0]) [aInt 0, aEx (.slice none 0 0)] rfl zv27 rfl zc27 (fun b4_3 => ?_)
 refine emm rfl ?_
 refine enk K1 ?_
 refine ent_seq fun _ K2 => ?_
 refine esr rfl fun _ K3 => ?_
 refine ent_o rfl (ok_loadBS (k := 2) ti24 rfl rfl rfl) ?_
 refine ent_o rfl (ok_loadBS (k := 1) ti27 rfl rfl rfl) ?_
 refine ent_o rfl (ok_build1 (enc := aMat) (y := (⟨m.cols, m.rows⟩ : Mat)) vt67 rfl (elem_agg (AllOne.mem ⟨(one_int _), one_sl, trivial⟩)) (by decide)) ?_
 rcases Classical.em (mErr f m = 0) with hm0 | hm0
 ·refine ent_o rfl (ok_call (open_ok f [(⟨m.cols, m.rows⟩ : Mat)] (mErr_zero.1 hm0).1 (by intro q hq; simp only [List.mem_cons, List.not_mem_nil, or_false] at hq; subst hq; exact (mErr_zero.1 hm0).2) (by simp)) rfl) ?_
  refine emm rfl ?_
  refine ent_o rfl (ok_extract rfl rfl) ?_
  refine ent_o rfl (ok_extract rfl rfl) ?_
  refine emm rfl ?_
  refine enk K3 ?_
  refine esr rfl fun _ K4 => ?_
  refine ent_o rfl (ok_neq rfl rfl) ?_
  refine enk K4 ?_
  refine ent_condFP rfl (by decide) ?_
  refine esp K2 ?_
  refine ent_seq fun _ K5 => ?_
  have hF := (mErr_zero.1 hm0).1
  have hme := (mErr_zero.1 hm0).2
  have hsz := mat_size hme
  have hgm := mat_good hme
  refine ent_drawA1 (e1 := 22) (T := 27) (enc1 := aH) (xs1 := (List.replicate (m.cols).toNat Hdr.no : List Hdr)) (A0 := aInt (↑m.rows.length : Int)) (As := [aInt 0, aEx (.slice none 0 0)]) 8 [] 29 8 [] [(3, aEx (.pointer (some ⟨b3_2, 0, none⟩))), (4, aEx (.pointer (some ⟨b4_3, 0, none⟩)))] mixed (by kernel_rfl) (by kernel_rfl) (by kernel_rfl) (by kernel_rfl) (by kernel_rfl) (fun _ _ _ _ _ h => h) flat_hdr (by decide) (by decide) pl_ex (AllPl.mem ⟨pl_ex, pl_ex, trivial⟩) (AllPlS.mem (T := []) trivial) ⟨rfl, rfl, trivial⟩ (by kernel_rfl) (fun w => ?_) (fun ra_4 ca_4 bb_4 => ?_)
  ·refine dw_o rfl (ok_fieldAddrEx Try.runUnderlying27 rfl Try.sizeOf25 (by decide) rfl) ?_
   refine dw_o rfl (ok_loadB (k := 1) Try.isAgg25 rfl rfl rfl) ?_
   refine dw_o rfl (ok_len rfl Try.runUnderlying25 rfl) ?_
   refine dw_o rfl (ok_fieldAddrEx Try.runUnderlying27 rfl Try.sizeOf3 (by decide) rfl) ?_
   refine dw_o rfl (ok_loadB (k := 1) Try.isAgg3 rfl rfl rfl) ?_
   refine dw_o rfl (ok_makeA aH Hdr.no vt25 rfl rfl (by first | omega | (simp only [List.length_set]; omega) | (rw [ixlen_setR _ h0 (by omega)]; omega)) (by first | omega | (simp only [List.length_set]; omega) | (rw [ixlen_setR _ h0 (by omega)]; omega)) (by first | omega | (simp only [List.length_set]; omega) | (rw [ixlen_setR _ h0 (by omega)]; omega)) (fun _ _ => rfl) (AllV.mem ⟨rfl, trivial⟩)) ?_
   refine dw_o rfl (ok_build st27 (As := [aInt 0, aEx (.slice none 0 0)]) z27 (⟨0, 1, rfl, .inl ⟨rfl, _, rfl, (one_int _), rfl, ⟨1, 1, rfl, .inl ⟨rfl, _, rfl, one_frvec, rfl, rfl⟩⟩⟩⟩)) ?_
   refine dw_o rfl (ok_allocF (z := .agg #[.int .i64 0, .slice none 0 0]) [aInt 0, aEx (.slice none 0 0)] zv27 rfl zc27) ?_
   exact ⟨⟨rfl, rfl⟩, trivial⟩
  refine ent_rowsN 3 aInt ((m.cols).toNat) ?_
  refine ent_storeBS (k := 1) Try.sizeOf27 rfl rfl rfl (AllOne.mem ⟨(one_int _), (one_ex rfl), trivial⟩) rfl rfl ?_
  show Ent _ ⟨_, [_, _, _, _, _, _]⟩ _
  refine enk K5 ?_
  refine ent_seq fun _ K6 => ?_
  refine esr rfl fun _ K7 => ?_
  refine ent_o rfl (ok_fieldAddrEx Try.runUnderlying27 rfl Try.sizeOf25 (by decide) rfl) ?_
  refine ent_o rfl (ok_loadB (k := 1) Try.isAgg25 rfl rfl rfl) ?_
  refine ent_o rfl (ok_lenEx rfl Try.runUnderlying25 rfl) ?_
  refine emm rfl ?_
  refine enk K7 ?_
  refine ent_block ?_
  refine ent_loop (fun (ss : Int × List Hdr) => match ss with | (j, Hs) => (⟨[(3, aEx (.pointer (some ⟨b3_2, 0, none⟩))), (4, aEx (.pointer (some ⟨b4_3, 0, none⟩))), (8, aEx (.pointer (some ⟨bb_4, 0, none⟩))), (32, aInt (↑(((List.replicate (m.cols).toNat Hdr.no : List Hdr)).length) : Int)), (33, aInt j)], [oRws 3 aInt [] Hs (mixG (turnL m.rows m.cols) (List.replicate m.cols.toNat []) j), oBox bb_4 27 [aInt (↑m.rows.length : Int), aEx (vec ra_4 (((List.replicate (m.cols).toNat Hdr.no : List Hdr)).length) ca_4)], oVec ra_4 ca_4 22 1 false aH Hs, oBox b4_3 27 [aInt 0, aEx (.slice none 0 0)], oBox b3_2 27 [aInt m.cols, aSl 1 false aInts m.rows], oBox b2_1 24 [aInt f.P, aInt f.M, aSl 1 false aInt f.mod]]⟩ : St)) (fun (ss : Int × List Hdr) => match ss with | (j, Hs) => (0 ≤ j) ∧ (j ≤ m.cols) ∧ (Hs.length = m.cols.toNat)) (fun (ss : Int × List Hdr) => match ss with | (j, Hs) => (m.cols - j).toNat) (0, (List.replicate (m.cols).toNat Hdr.no : List Hdr)) ⟨(by first | rfl | assumption | omega | (simp_all; done) | grind), (by first | rfl | assumption | omega | (simp_all; done) | grind), (by simp)⟩ (ent_rep ⟨rfl, rfl, rfl, rfl, slot_av (av_int (show 0 = (0 : Int) by first | rfl | assumption | omega | (simp_all; done) | grind)), trivial⟩ (own_cons (own_rws (show (List.replicate (m.cols).toNat Hdr.no : List Hdr) = List.replicate ((m.cols).toNat) Hdr.no by first | rfl | assumption | omega | (simp_all; done) | grind) (show mixG (turnL m.rows m.cols) (List.replicate m.cols.toNat []) (0 : Int) = List.replicate ((m.cols).toNat) [] by first | exact mixG_zero _ _)) (rfl))) ?_
  rintro ⟨j, Hs⟩ ⟨h0, h1, hH⟩
  show Ent _ ⟨_, [_, _, _, _, _, _]⟩ _
  have lm : (mixG (turnL m.rows m.cols) (List.replicate m.cols.toNat []) j).length = m.cols.toNat := by rw [length_mixG _ _ (by rw [length_turnL]; simp) h0 (by rw [length_turnL]; omega), length_turnL]
  refine esr rfl fun _ K8 => ?_
  refine ent_o rfl (ok_lss rfl rfl) ?_
  refine enk K8 ?_
  refine ent_seq fun _ K9 => ?_
  refine ent_condD rfl (fun h34 => ?_) (fun h34 => ?_)
  ·have hj : j < m.cols := by rw [List.length_replicate] at h34; omega
   refine esp K9 ?_
   refine ent_seq fun _ K10 => ?_
   refine ent_block ?_
   refine esk rfl ?_
   refine ent_seq fun _ K12 => ?_
   refine ent_drawV1 (e := 3) (enc := aInt) (xs := (List.replicate ((↑m.rows.length : Int)).toNat 0 : List Int)) 7 [] 42 [(37, aEx (vec ra_4 (((List.replicate (m.cols).toNat Hdr.no : List Hdr)).length) ca_4)), (38, aInt j)] [(3, aEx (.pointer (some ⟨b3_2, 0, none⟩))), (4, aEx (.pointer (some ⟨b4_3, 0, none⟩))), (8, aEx (.pointer (some ⟨bb_4, 0, none⟩))), (9, aInt j), (32, aInt (↑(((List.replicate (m.cols).toNat Hdr.no : List Hdr)).length) : Int)), (33, aInt j)] mixed (by kernel_rfl) (by kernel_rfl) (by kernel_rfl) (by kernel_rfl) (by kernel_rfl) (fun _ _ _ _ _ h => h) flat_int (AllPlS.mem ⟨pl_ex, pl_ex, trivial⟩) ⟨rfl, rfl, rfl, rfl, rfl, rfl, trivial⟩ (by kernel_rfl) (fun w => ?_) (fun ra_5 ca_5 => ?_)
   ·refine dw_o rfl (ok_fieldAddrEx Try.runUnderlying27 rfl Try.sizeOf25 (by decide) rfl) ?_
    refine dw_o rfl (ok_loadB (k := 1) Try.isAgg25 rfl rfl rfl) ?_
    refine dw_o rfl (ok_move rfl) ?_
    refine dw_o rfl (ok_fieldAddrEx Try.runUnderlying27 rfl Try.sizeOf25 (by decide) rfl) ?_
    refine dw_o rfl (ok_loadB (k := 4) Try.isAgg25 rfl rfl rfl) ?_
    refine dw_o rfl (ok_len rfl Try.runUnderlying25 rfl) ?_
    refine dw_o rfl (ok_makeA aInt 0 vt22 rfl rfl (by first | omega | (simp only [List.length_set]; omega) | (rw [ixlen_setR _ h0 (by omega)]; omega)) (by first | omega | (simp only [List.length_set]; omega) | (rw [ixlen_setR _ h0 (by omega)]; omega)) (by first | omega | (simp only [List.length_set]; omega) | (rw [ixlen_setR _ h0 (by omega)]; omega)) (fun _ _ => rfl) (AllV.mem ⟨rfl, trivial⟩)) ?_
    exact ⟨rfl, ⟨rfl, rfl, trivial⟩⟩
   refine ent_o rfl (ok_indexV0 (k := 3) sl25 rfl rfl (by first | rfl | assumption | (simp; done) | (simp_all; done) | omega) rfl (by first | omega | (simp only [List.length_set]; omega) | (rw [ixlen_setR _ h0 (by omega)]; omega)) (by first | omega | (simp only [List.length_set]; omega) | (rw [ixlen_setR _ h0 (by omega)]; omega))) ?_
   refine ent_storeV0 (k := 3) (z := ⟨ra_5, ((List.replicate ((↑m.rows.length : Int)).toNat 0 : List Int)).length, ca_5⟩) ti22 rfl rfl rfl (elem_one (one_ex rfl)) (by first | omega | (simp only [List.length_set]; omega) | (rw [ixlen_setR _ h0 (by omega)]; omega)) (by first | omega | (simp only [List.length_set]; omega) | (rw [ixlen_setR _ h0 (by omega)]; omega)) ?_
   refine ent_putRow 1 0 j (m := ((List.replicate ((↑m.rows.length : Int)).toNat 0 : List Int)).length) [] rfl rfl (by decide) (by simp) (by first | rfl | assumption | (simp; done) | (simp_all; done) | omega) ?_
   refine enk K12 ?_
   refine esr rfl fun _ K13 => ?_
   refine ent_o rfl (ok_fieldAddrEx Try.runUnderlying27 rfl Try.sizeOf25 (by decide) rfl) ?_
   refine ent_o rfl (ok_loadB (k := 4) Try.isAgg25 rfl rfl rfl) ?_
   refine ent_o rfl (ok_len rfl Try.runUnderlying25 rfl) ?_
   refine emm rfl ?_
   refine enk K13 ?_
   refine ent_block ?_
   refine ent_loop (fun (i : Int) => (⟨[(3, aEx (.pointer (some ⟨b3_2, 0, none⟩))), (4, aEx (.pointer (some ⟨b4_3, 0, none⟩))), (8, aEx (.pointer (some ⟨bb_4, 0, none⟩))), (9, aInt j), (32, aInt (↑(((List.replicate (m.cols).toNat Hdr.no : List Hdr)).length) : Int)), (33, aInt j), (45, aSl 1 false aInts m.rows), (46, aInt (↑m.rows.length : Int)), (47, aInt i)], [oRws 3 aInt [] (List.set Hs (j).toNat ⟨ra_5, ((List.replicate ((↑m.rows.length : Int)).toNat 0 : List Int)).length, ca_5⟩) ((mixG (turnL m.rows m.cols) (List.replicate m.cols.toNat []) j).set j.toNat (mixL (colC m.rows j) (List.replicate m.rows.length 0) i)), oBox bb_4 27 [aInt (↑m.rows.length : Int), aEx (vec ra_4 (((List.replicate (m.cols).toNat Hdr.no : List Hdr)).length) ca_4)], oVec ra_4 ca_4 22 1 false aH (List.set Hs (j).toNat (⟨ra_5, ((List.replicate ((↑m.rows.length : Int)).toNat 0 : List Int)).length, ca_5⟩)), oBox b4_3 27 [aInt 0, aEx (.slice none 0 0)], oBox b3_2 27 [aInt m.cols, aSl 1 false aInts m.rows], oBox b2_1 24 [aInt f.P, aInt f.M, aSl 1 false aInt f.mod]]⟩ : St)) (fun (i : Int) => (0 ≤ i) ∧ (i ≤ m.rows.length)) (fun (i : Int) => (m.rows.length - i).toNat) 0 ⟨(by first | rfl | assumption | omega | (simp_all; done) | grind), (by first | rfl | assumption | omega | (simp_all; done) | grind)⟩ (ent_rep ⟨rfl, rfl, rfl, rfl, rfl, rfl, rfl, rfl, slot_av (av_int (show 0 = (0 : Int) by first | rfl | assumption | omega | (simp_all; done) | grind)), trivial⟩ (own_cons (own_rws rfl (show (mixG (turnL m.rows m.cols) (List.replicate m.cols.toNat []) j).set j.toNat (mixL (colC m.rows j) (List.replicate m.rows.length 0) (0 : Int)) = List.set (mixG (turnL m.rows m.cols) (List.replicate m.cols.toNat []) j) (j).toNat (List.replicate ((↑m.rows.length : Int)).toNat 0 : List Int) by first | (rw [mixL_zero]; done) | (rw [mixL_zero]; rfl))) (rfl))) ?_
   rintro i ⟨i0, i1⟩
   show Ent _ ⟨_, [_, _, _, _, _, _]⟩ _
   have lml : (mixL (colC m.rows j) (List.replicate m.rows.length 0) i).length = m.rows.length := by rw [length_mixL _ _ (by simp)]; simp
   refine esr rfl fun _ K14 => ?_
   refine ent_o rfl (ok_lss rfl rfl) ?_
   refine enk K14 ?_
   refine ent_seq fun _ K15 => ?_
   refine ent_condD rfl (fun h48 => ?_) (fun h48 => ?_)
   ·have hri := row_len hme i0 h48
    refine esp K15 ?_
    refine ent_seq fun _ K16 => ?_
    refine ent_block ?_
    refine esr rfl fun _ K17 => ?_
    refine ent_o rfl (ok_index [] sl25 rfl rfl (by first | omega | (simp only [List.length_set]; omega) | (rw [ixlen_setR _ h0 (by omega)]; omega)) (by first | omega | (simp only [List.length_set]; omega) | (rw [ixlen_setR _ h0 (by omega)]; omega))) ?_
    refine ent_o rfl (ok_load ti22 rfl) ?_
    refine emm rfl ?_
    refine enk K17 ?_
    refine ent_draw 11 mixed (by kernel_rfl) (by kernel_rfl) (by kernel_rfl) ?_
    refine dw_o rfl (ok_fieldAddrEx Try.runUnderlying27 rfl Try.sizeOf25 (by decide) rfl) ?_
    refine dw_o rfl (ok_loadB (k := 1) Try.isAgg25 rfl rfl rfl) ?_
    refine dw_o rfl (ok_move rfl) ?_
    refine dw_o rfl (ok_indexV0 (k := 2) sl25 rfl rfl (by first | rfl | assumption | (simp; done) | (simp_all; done) | omega) rfl (by first | omega | (simp only [List.length_set]; omega) | (rw [ixlen_setR _ h0 (by omega)]; omega)) (by first | omega | (simp only [List.length_set]; omega) | (rw [ixlen_setR _ h0 (by omega)]; omega))) ?_
    refine dw_o rfl (ok_loadV0 (k := 2) Hdr.no ti22 rfl rfl (by first | omega | (simp only [List.length_set]; omega) | (rw [ixlen_setR _ h0 (by omega)]; omega)) (by first | omega | (simp only [List.length_set]; omega) | (rw [ixlen_setR _ h0 (by omega)]; omega))) ?_
    refine dw_o rfl (ok_move rfl) ?_
    refine dw_o rfl (ok_move rfl) ?_
    refine dw_o rfl (ok_move rfl) ?_
    refine dw_o rfl (ok_index 0 sl22 rfl rfl (by first | omega | (simp only [List.length_set]; omega) | (rw [ixlen_setR _ h0 (by omega)]; omega)) (by first | omega | (simp only [List.length_set]; omega) | (rw [ixlen_setR _ h0 (by omega)]; omega))) ?_
    refine dw_o rfl (ok_load ti3 rfl) ?_
    refine dw_o rfl (ok_indexH (k := 0) sl22 rfl rfl rfl (by first | omega | (simp only [List.length_set]; omega) | (rw [ixlen_setR _ h0 (by omega)]; omega)) (by first | omega | (simp only [List.length_set]; omega) | (rw [ixlen_setR _ h0 (by omega)]; omega)) (by first | exact List.not_mem_nil | (simp; done) | (simp; omega)) (by first | omega | (simp only [List.length_set]; omega) | (rw [ixlen_setR _ h0 (by omega)]; omega)) (by first | omega | (simp only [List.length_set]; omega) | (rw [ixlen_setR _ h0 (by omega)]; omega))) ?_
    refine dw_nil ?_
    refine ent_storeH (k := 0) (z := ix 0 (ix [] m.rows i) j) ti3 rfl rfl rfl (elem_one (one_int _)) (by first | omega | (simp only [List.length_set]; omega) | (rw [ixlen_setR _ h0 (by omega)]; omega)) (by first | omega | (simp only [List.length_set]; omega) | (rw [ixlen_setR _ h0 (by omega)]; omega)) (by first | omega | (simp only [List.length_set]; omega) | (rw [ixlen_setR _ h0 (by omega)]; omega)) (by first | omega | (simp only [List.length_set]; omega) | (rw [ixlen_setR _ h0 (by omega)]; omega)) ?_
    refine enk K16 ?_
    refine ent_region ?_
    refine ent_o rfl (ok_add rfl rfl (by first | omega | (simp only [List.length_set]; omega) | (rw [ixlen_setR _ h0 (by omega)]; omega)) (by first | omega | (simp only [List.length_set]; omega) | (rw [ixlen_setR _ h0 (by omega)]; omega))) ?_
    refine emm rfl ?_
    refine ent_nil ?_
    refine ent_again (s := (i)) (i + 1) ⟨(by first | rfl | assumption | omega | (simp_all; done) | grind), (by first | rfl | assumption | omega | (simp_all; done) | grind)⟩ (by first | omega | (dsimp only; omega)) (ent_rep ⟨rfl, rfl, rfl, rfl, rfl, rfl, rfl, rfl, rfl, trivial⟩ (own_cons (own_rws rfl (show (mixG (turnL m.rows m.cols) (List.replicate m.cols.toNat []) j).set j.toNat (mixL (colC m.rows j) (List.replicate m.rows.length 0) (i + 1)) = List.set ((mixG (turnL m.rows m.cols) (List.replicate m.cols.toNat []) j).set j.toNat (mixL (colC m.rows j) (List.replicate m.rows.length 0) i)) (j).toNat (List.set (ix [] ((mixG (turnL m.rows m.cols) (List.replicate m.cols.toNat []) j).set j.toNat (mixL (colC m.rows j) (List.replicate m.rows.length 0) i)) j) (i).toNat (ix 0 (ix [] m.rows i) j)) by exact turnL_ent h0 (by omega) i0 h48)) (rfl)))
   ·refine ent_exit ?_
    refine ent_k K10 ?_
    refine ent_region ?_
    refine ent_o rfl (ok_add rfl rfl (by first | omega | (simp only [List.length_set]; omega) | (rw [ixlen_setR _ h0 (by omega)]; omega)) (by first | omega | (simp only [List.length_set]; omega) | (rw [ixlen_setR _ h0 (by omega)]; omega))) ?_
    refine emm rfl ?_
    refine ent_nil ?_
    refine ent_again (s := (j, Hs)) (j + 1, List.set Hs (j).toNat ⟨ra_5, ((List.replicate ((↑m.rows.length : Int)).toNat 0 : List Int)).length, ca_5⟩) ⟨(by first | rfl | assumption | omega | (simp_all; done) | grind), (by first | rfl | assumption | omega | (simp_all; done) | grind), (by simp only [List.length_set]; exact hH)⟩ (by first | omega | (dsimp only; omega)) (ent_rep ⟨rfl, rfl, rfl, rfl, rfl, trivial⟩ (own_cons (own_rws (show (List.set Hs (j).toNat ⟨ra_5, ((List.replicate ((↑m.rows.length : Int)).toNat 0 : List Int)).length, ca_5⟩) = List.set Hs (j).toNat ⟨ra_5, ((List.replicate ((↑m.rows.length : Int)).toNat 0 : List Int)).length, ca_5⟩ by first | rfl | assumption | omega | (simp_all; done) | grind) (show mixG (turnL m.rows m.cols) (List.replicate m.cols.toNat []) (j + 1) = (mixG (turnL m.rows m.cols) (List.replicate m.cols.toNat []) j).set j.toNat (mixL (colC m.rows j) (List.replicate m.rows.length 0) i) by exact turnL_mix h0 hj (by omega))) (own_cons (rfl) (own_cons (own_vec (show (List.set Hs (j).toNat ⟨ra_5, ((List.replicate ((↑m.rows.length : Int)).toNat 0 : List Int)).length, ca_5⟩) = List.set Hs (j).toNat (⟨ra_5, ((List.replicate ((↑m.rows.length : Int)).toNat 0 : List Int)).length, ca_5⟩) by first | rfl | assumption | omega | (simp_all; done) | grind)) (rfl)))))
  ·have hj : ¬ j < m.cols := by rw [List.length_replicate] at h34; omega
   refine ent_exit ?_
   refine ent_k K6 ?_
   refine esr rfl fun _ K18 => ?_
   refine ent_o rfl (ok_loadBS (k := 1) ti27 rfl rfl rfl) ?_
   refine ent_storeBS (k := 3) Try.sizeOf27 rfl rfl rfl (AllOne.mem ⟨(one_int _), (one_ex rfl), trivial⟩) rfl rfl ?_
   show Ent _ ⟨_, [_, _, _, _, _, _]⟩ _
   refine emm rfl ?_
   refine enk K18 ?_
   refine ent_ret ?_
   refine ent_frzRows 2 0 rfl rfl (by decide) ?_
   exact retR2 (.inr rfl) Try.results44 (resr_cell (k := 2) ti27 rfl rfl rfl (cv_agg ⟨cv_int (by first | (rw [turM_no hm0]; rfl) | (rw [turM_ok hm0]; done) | (rw [turM_ok hm0]; rfl) | (rw [turM_ok hm0]; show _ = turnL _ _; exact mixG_all _ _ (by rw [length_turnL]; omega) (by rw [length_turnL]; simp))), cv_vec (k := 1) (off_x rfl) (by first | rfl | assumption | (simp; done) | (simp_all; done) | omega) (by first | (rw [turM_no hm0]; rfl) | (rw [turM_ok hm0]; done) | (rw [turM_ok hm0]; rfl) | (rw [turM_ok hm0]; show _ = turnL _ _; exact mixG_all _ _ (by rw [length_turnL]; omega) (by rw [length_turnL]; simp))), trivial⟩)) (resr_tmp (res_cv rfl (cv_int (by first | rfl | exact hm0.symm | exact opErr_one f m | (simp; done)))))
 ·refine ent_o rfl (ok_call (open_no f [(⟨m.cols, m.rows⟩ : Mat)] (by rw [opErr_one]; exact hm0)) rfl) ?_
  refine emm rfl ?_
  refine ent_o rfl (ok_extract rfl rfl) ?_
  refine ent_o rfl (ok_extract rfl rfl) ?_
  refine emm rfl ?_
  refine enk K3 ?_
  refine esr rfl fun _ K19 => ?_
  refine ent_o rfl (ok_neq rfl rfl) ?_
  refine enk K19 ?_
  refine ent_condD rfl (fun h20 => ?_) (fun h20 => ?_)
  ·refine esr rfl fun _ K20 => ?_
   refine ent_o rfl (ok_build st27 (As := [aInt 0, aEx (.slice none 0 0)]) z27 (rfl)) ?_
   refine emm rfl ?_
   refine ent_storeBS (k := 0) Try.sizeOf27 rfl rfl rfl (AllOne.mem ⟨(one_int _), (one_ex rfl), trivial⟩) rfl rfl ?_
   show Ent _ ⟨_, [_, _, _]⟩ _
   refine emm rfl ?_
   refine enk K20 ?_
   refine ent_ret ?_
   exact retR2 (.inr rfl) Try.results44 (resr_cell (k := 0) ti27 rfl rfl rfl (cv_agg ⟨cv_int (by first | (rw [turM_no hm0]; rfl) | (rw [turM_ok hm0]; done) | (rw [turM_ok hm0]; rfl) | (rw [turM_ok hm0]; show _ = turnL _ _; exact mixG_all _ _ (by rw [length_turnL]; omega) (by rw [length_turnL]; simp))), cv_nil (fun _ => rfl) (by first | (rw [turM_no hm0]; rfl) | (rw [turM_ok hm0]; done) | (rw [turM_ok hm0]; rfl) | (rw [turM_ok hm0]; show _ = turnL _ _; exact mixG_all _ _ (by rw [length_turnL]; omega) (by rw [length_turnL]; simp))), trivial⟩)) (resr_tmp (res_cv rfl (cv_int (by first | rfl | exact hm0.symm | exact opErr_one f m | (simp; done)))))
  ·exact absurd (Classical.not_not.1 h20) (by rw [opErr_one]; exact hm0)
end Go.Proofs.Ytamhdlkfhhpdpaa

