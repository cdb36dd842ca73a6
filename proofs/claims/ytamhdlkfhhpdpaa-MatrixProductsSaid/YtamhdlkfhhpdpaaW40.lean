/-
  Facts for the law MatrixProducts.
-/
import Derived.Test.YtamhdlkfhhpdpaaProg
import Derived.Test.YtamhdlkfhhpdpaaWTab
import Derived.Test.YtamhdlkfhhpdpaaPlainSt
import Derived.Test.YtamhdlkfhhpdpaaCzLib
import Derived.Test.YtamhdlkfhhpdpaaW1
import Derived.Test.YtamhdlkfhhpdpaaW4
import Derived.Test.YtamhdlkfhhpdpaaW5
import Derived.Test.YtamhdlkfhhpdpaaW6
import Derived.Test.YtamhdlkfhhpdpaaW9
import Derived.Test.YtamhdlkfhhpdpaaW10
import Derived.Test.YtamhdlkfhhpdpaaW11
import Derived.Test.YtamhdlkfhhpdpaaW12
import Derived.Test.YtamhdlkfhhpdpaaW13
import Derived.Test.YtamhdlkfhhpdpaaW14
import Derived.Test.YtamhdlkfhhpdpaaW15
import Derived.Test.YtamhdlkfhhpdpaaW16
import Derived.Test.YtamhdlkfhhpdpaaW17
import Derived.Test.YtamhdlkfhhpdpaaW18
import Derived.Test.YtamhdlkfhhpdpaaW19
import Derived.Test.YtamhdlkfhhpdpaaW20
import Derived.Test.YtamhdlkfhhpdpaaW21
open Go Go.Cw
namespace Go.Proofs.Ytamhdlkfhhpdpaa
set_option maxRecDepth 100000
set_option linter.unusedVariables false
set_option linter.unusedSimpArgs false
theorem rmMul_ok (f : Fld) (a b : Mat)  : Ctr Try.prog 54 [aFld f, aMat a, aMat b] (aTup [aMat (mulV f a b), aInt (mulE f a b)]) := by
 refine ctr_of Try.call54 Try.func54 rfl rfl ?_
 intro w O
 refine ent_lenC 0 2 rfl rfl (fun hlen0_2 => ?_)
 refine ent_lenC 1 1 rfl rfl (fun hlen1_1 => ?_)
 refine ent_lenC 2 1 rfl rfl (fun hlen2_1 => ?_)
 refine esr rfl fun _ K1 => ?_
 refine ent_boxS rfl rfl (AllOne.mem ⟨(one_int _), (one_int _), one_sl, trivial⟩) (fun b3_1 => ?_)
 refine ent_boxS rfl rfl (AllOne.mem ⟨(one_int _), one_sl, trivial⟩) (fun b4_2 => ?_)
 refine ent_boxS rfl rfl (AllOne.mem ⟨(one_int _), one_sl, trivial⟩) (fun b5_3 => ?_)
 refine ent_alloc (z := .agg #[.int .i64 0, .slice none 0 0]) [aInt 0, aEx (.slice none 0 0)] rfl zv27 rfl zc27 (fun b6_4 => ?_)
 refine emm rfl ?_
 refine enk K1 ?_
 refine esr rfl fun _ K2 => ?_
 refine ent_o rfl (ok_loadBS (k := 3) ti24 rfl rfl rfl) ?_
 refine ent_o rfl (ok_loadBS (k := 2) ti27 rfl rfl rfl) ?_
 refine ent_o rfl (ok_loadBS (k := 1) ti27 rfl rfl rfl) ?_
 refine ent_o rfl (ok_call (rtwo_ok f a b) rfl) ?_
 refine emm rfl ?_
 refine enk K2 ?_
 refine ent_seq fun _ K3 => ?_
 refine esr rfl fun _ K4 => ?_
 refine ent_o rfl (ok_neq rfl rfl) ?_
 refine enk K4 ?_
 refine ent_condD rfl (fun h16 => ?_) (fun h16 => ?_)
 ·have hqe : mulE f a b = twoErr f a b := mulE_no h16
  have hq0 : mulE f a b ≠ 0 := by rw [hqe]; exact h16
  refine esr rfl fun _ K5 => ?_
  refine ent_o rfl (ok_build st27 (As := [aInt 0, aEx (.slice none 0 0)]) z27 (rfl)) ?_
  refine emm rfl ?_
  refine ent_storeBS (k := 0) Try.sizeOf27 rfl rfl rfl (AllOne.mem ⟨(one_int _), (one_ex rfl), trivial⟩) rfl rfl ?_
  show Ent _ ⟨_, [_, _, _, _]⟩ _
  refine emm rfl ?_
  refine enk K5 ?_
  refine ent_ret ?_
  exact retR2 (.inr rfl) Try.results54 (resr_cell (k := 0) ti27 rfl rfl rfl (cv_agg ⟨cv_int (by first | (rw [mulV_no hq0]; rfl) | (rw [mulV_ok hqk]; done) | (rw [mulV_ok hqk]; rfl) | (rw [mulV_ok hqk, mapT_all _ _ (by omega)]; done) | (rw [mulV_ok hqk, mapT_all _ _ (by omega)]; rfl)), cv_nil (fun _ => rfl) (by first | (rw [mulV_no hq0]; rfl) | (rw [mulV_ok hqk]; done) | (rw [mulV_ok hqk]; rfl) | (rw [mulV_ok hqk, mapT_all _ _ (by omega)]; done) | (rw [mulV_ok hqk, mapT_all _ _ (by omega)]; rfl)), trivial⟩)) (resr_tmp (res_cv rfl (cv_int (by first | exact hqk.symm | exact hqe.symm))))
 ·have hm0 := Classical.not_not.1 h16
  have ha0 := (twoErr_zero.1 hm0).1
  have hb0 := (twoErr_zero.1 hm0).2
  have hF := (mErr_zero.1 ha0).1
  have hae := (mErr_zero.1 ha0).2
  have hbe := (mErr_zero.1 hb0).2
  have sa := mat_size hae
  have sb := mat_size hbe
  have hga := mat_good hae
  have hgb := mat_good hbe
  have hS := hF.1
  refine esp K3 ?_
  refine ent_seq fun _ K6 => ?_
  refine esr rfl fun _ K7 => ?_
  refine ent_o rfl (ok_fieldAddrEx Try.runUnderlying27 rfl Try.sizeOf3 (by decide) rfl) ?_
  refine ent_o rfl (ok_loadB (k := 2) Try.isAgg3 rfl rfl rfl) ?_
  refine ent_o rfl (ok_fieldAddrEx Try.runUnderlying27 rfl Try.sizeOf25 (by decide) rfl) ?_
  refine ent_o rfl (ok_loadB (k := 1) Try.isAgg25 rfl rfl rfl) ?_
  refine ent_o rfl (ok_len rfl Try.runUnderlying25 rfl) ?_
  refine ent_o rfl (ok_neq rfl rfl) ?_
  refine enk K7 ?_
  refine ent_condD rfl (fun h24 => ?_) (fun h24 => ?_)
  ·have hqe : mulE f a b = 10 := mulE_bad hm0 h24
   have hq0 : mulE f a b ≠ 0 := by rw [hqe]; decide
   refine esr rfl fun _ K8 => ?_
   refine ent_o rfl (ok_build st27 (As := [aInt 0, aEx (.slice none 0 0)]) z27 (rfl)) ?_
   refine ent_storeBS (k := 0) Try.sizeOf27 rfl rfl rfl (AllOne.mem ⟨(one_int _), (one_ex rfl), trivial⟩) rfl rfl ?_
   show Ent _ ⟨_, [_, _, _, _]⟩ _
   refine emm rfl ?_
   refine enk K8 ?_
   refine ent_ret ?_
   exact retR2 (.inr rfl) Try.results54 (resr_cell (k := 0) ti27 rfl rfl rfl (cv_agg ⟨cv_int (by first | (rw [mulV_no hq0]; rfl) | (rw [mulV_ok hqk]; done) | (rw [mulV_ok hqk]; rfl) | (rw [mulV_ok hqk, mapT_all _ _ (by omega)]; done) | (rw [mulV_ok hqk, mapT_all _ _ (by omega)]; rfl)), cv_nil (fun _ => rfl) (by first | (rw [mulV_no hq0]; rfl) | (rw [mulV_ok hqk]; done) | (rw [mulV_ok hqk]; rfl) | (rw [mulV_ok hqk, mapT_all _ _ (by omega)]; done) | (rw [mulV_ok hqk, mapT_all _ _ (by omega)]; rfl)), trivial⟩)) (resr_tmp (res_cv rfl (cv_int (by first | exact hqk.symm | exact hqe.symm))))
  ·have hqk : mulE f a b = 0 := mulE_ok hm0 h24
   have hmm := Classical.not_not.1 h24
   refine esp K6 ?_
   refine esr rfl fun _ K9 => ?_
   refine ent_o rfl (ok_fieldAddrEx Try.runUnderlying27 rfl Try.sizeOf3 (by decide) rfl) ?_
   refine ent_o rfl (ok_loadB (k := 1) Try.isAgg3 rfl rfl rfl) ?_
   refine ent_o rfl (ok_build st27 (As := [aInt 0, aEx (.slice none 0 0)]) z27 (⟨0, 1, rfl, .inl ⟨rfl, _, rfl, (one_int _), rfl, rfl⟩⟩)) ?_
   refine ent_alloc (z := .agg #[.int .i64 0, .slice none 0 0]) [aInt 0, aEx (.slice none 0 0)] rfl zv27 rfl zc27 (fun b9_5 => ?_)
   refine ent_storeBS (k := 0) Try.sizeOf27 rfl rfl rfl (AllOne.mem ⟨(one_int _), (one_ex rfl), trivial⟩) rfl rfl ?_
   show Ent _ ⟨_, [_, _, _, _, _]⟩ _
   refine enk K9 ?_
   refine ent_seq fun _ K10 => ?_
   refine esk rfl ?_
   refine ent_block ?_
   refine ent_open 22 1 false aInts (fun _ => rfl) ?_
   refine ent_loop (fun (ss : Int × Option Nat × Nat) => match ss with | (i, rr7, cc7) => (⟨[(3, aEx (.pointer (some ⟨b3_1, 0, none⟩))), (4, aEx (.pointer (some ⟨b4_2, 0, none⟩))), (5, aEx (.pointer (some ⟨b5_3, 0, none⟩))), (6, aEx (.pointer (some ⟨b6_4, 0, none⟩))), (9, aEx (.pointer (some ⟨b9_5, 0, none⟩))), (10, aInt i)], [oVec rr7 cc7 22 1 false aInts (mapT (fun row => comb f row b.rows b.cols) a.rows i), oBox b9_5 27 [aInt b.cols, aEx (vec rr7 ((mapT (fun row => comb f row b.rows b.cols) a.rows i).length) cc7)], oBox b6_4 27 [aInt 0, aEx (.slice none 0 0)], oBox b5_3 27 [aInt b.cols, aSl 1 false aInts b.rows], oBox b4_2 27 [aInt a.cols, aSl 1 false aInts a.rows], oBox b3_1 24 [aInt f.P, aInt f.M, aSl 1 false aInt f.mod]]⟩ : St)) (fun (ss : Int × Option Nat × Nat) => match ss with | (i, rr7, cc7) => (0 ≤ i) ∧ (i ≤ a.rows.length)) (fun (ss : Int × Option Nat × Nat) => match ss with | (i, rr7, cc7) => (a.rows.length - i).toNat) (0, none, 0) ⟨(by first | rfl | assumption | omega | (simp_all; done) | grind), (by first | rfl | assumption | omega | (simp_all; done) | grind)⟩ (ent_rep ⟨rfl, rfl, rfl, rfl, rfl, slot_av (av_int (show 0 = (0 : Int) by first | rfl | assumption | omega | (simp_all; done) | grind)), trivial⟩ (own_cons (own_vec (show mapT (fun row => comb f row b.rows b.cols) a.rows (0 : Int) = [] by first | rfl | simp [mapT_zero])) (own_cons (own_box (av_cons rfl (av_cons ((by first | rfl | simp [mapT_zero])) (rfl)))) (rfl)))) ?_
   rintro ⟨i, rr7, cc7⟩ ⟨h0, h1⟩
   show Ent _ ⟨_, [_, _, _, _, _, _]⟩ _
   have lf := length_mapT (fun row => comb f row b.rows b.cols) a.rows (i := i) (by omega)
   refine ent_seq fun _ K12 => ?_
   refine esr rfl fun _ K13 => ?_
   refine ent_o rfl (ok_fieldAddrEx Try.runUnderlying27 rfl Try.sizeOf25 (by decide) rfl) ?_
   refine ent_o rfl (ok_loadB (k := 4) Try.isAgg25 rfl rfl rfl) ?_
   refine ent_o rfl (ok_len rfl Try.runUnderlying25 rfl) ?_
   refine ent_o rfl (ok_lss rfl rfl) ?_
   refine enk K13 ?_
   refine ent_condD rfl (fun h33 => ?_) (fun h33 => ?_)
   ·refine esp K12 ?_
    refine ent_seq fun _ K14 => ?_
    refine ent_block ?_
    refine ent_draw 14 mixed (by kernel_rfl) (by kernel_rfl) (by kernel_rfl) ?_
    refine dw_o rfl (ok_fieldAddrEx Try.runUnderlying27 rfl Try.sizeOf25 (by decide) rfl) ?_
    refine dw_o rfl (ok_loadB (k := 1) Try.isAgg25 rfl rfl rfl) ?_
    refine dw_o rfl (ok_loadBS (k := 5) ti24 rfl rfl rfl) ?_
    refine dw_o rfl (ok_fieldAddrEx Try.runUnderlying27 rfl Try.sizeOf25 (by decide) rfl) ?_
    refine dw_o rfl (ok_loadB (k := 4) Try.isAgg25 rfl rfl rfl) ?_
    refine dw_o rfl (ok_move rfl) ?_
    refine dw_o rfl (ok_index [] sl25 rfl rfl (by omega) (by omega)) ?_
    refine dw_o rfl (ok_load ti22 rfl) ?_
    refine dw_o rfl (ok_fieldAddrEx Try.runUnderlying27 rfl Try.sizeOf25 (by decide) rfl) ?_
    refine dw_o rfl (ok_loadB (k := 3) Try.isAgg25 rfl rfl rfl) ?_
    refine dw_o rfl (ok_fieldAddrEx Try.runUnderlying27 rfl Try.sizeOf3 (by decide) rfl) ?_
    refine dw_o rfl (ok_loadB (k := 3) Try.isAgg3 rfl rfl rfl) ?_
    refine dw_o rfl (ok_call (rCombine_ok f (ix [] a.rows i) b.rows b.cols (by first | rfl | assumption | omega | (simp_all; done) | grind) (by omega) (by omega) (fun i i0 i1 => row_len hbe i0 i1)) rfl) ?_
    refine dw_o rfl (ok_build1 (enc := aInts) (y := comb f (ix [] a.rows i) b.rows b.cols) vt25 rfl (elem_one one_sl) (by decide)) ?_
    refine dw_nil ?_
    refine ent_appendS (k := 0) rfl vt25 rfl rfl (by first | rfl | assumption | (simp; done) | (simp_all; done) | omega) rfl (cv_id sub_refl) (by first | omega | (simp only [List.length_append, List.length_cons, List.length_nil]; omega) | (simp; omega)) (by first | omega | (simp only [List.length_append, List.length_cons, List.length_nil]; omega) | (simp; omega)) (fun r50_7 cr50_7 => ?_)
    refine ent_o rfl (ok_fieldAddrEx Try.runUnderlying27 rfl Try.sizeOf25 (by decide) rfl) ?_
    refine ent_storeB (k := 1) Try.sizeOf25 rfl rfl rfl (one_ex rfl) rfl ?_
    refine enk K14 ?_
    refine ent_region ?_
    refine emm rfl ?_
    refine ent_o rfl (ok_add rfl rfl (by omega) (by omega)) ?_
    refine emm rfl ?_
    refine ent_nil ?_
    refine ent_again (s := (i, rr7, cc7)) (i + 1, r50_7, cr50_7) ⟨(by first | rfl | assumption | omega | (simp_all; done) | grind), (by first | rfl | assumption | omega | (simp_all; done) | grind)⟩ (by first | omega | (dsimp only; omega)) (ent_rep ⟨rfl, rfl, rfl, rfl, rfl, rfl, trivial⟩ (own_cons (own_vec (show mapT (fun row => comb f row b.rows b.cols) a.rows (i + 1) = (mapT (fun row => comb f row b.rows b.cols) a.rows i) ++ [comb f (ix [] a.rows i) b.rows b.cols] by exact mapT_succ [] _ a.rows h0 h33)) (own_cons (own_box (av_cons rfl (av_cons (av_vec (congrArg List.length (show mapT (fun row => comb f row b.rows b.cols) a.rows (i + 1) = (mapT (fun row => comb f row b.rows b.cols) a.rows i) ++ [comb f (ix [] a.rows i) b.rows b.cols] by exact mapT_succ [] _ a.rows h0 h33))) (rfl)))) (rfl))))
   ·refine ent_exit ?_
    refine ent_k K10 ?_
    refine esr rfl fun _ K15 => ?_
    refine ent_o rfl (ok_loadBS (k := 1) ti27 rfl rfl rfl) ?_
    refine ent_storeBS (k := 2) Try.sizeOf27 rfl rfl rfl (AllOne.mem ⟨(one_int _), (one_ex rfl), trivial⟩) rfl rfl ?_
    show Ent _ ⟨_, [_, _, _, _, _, _]⟩ _
    refine emm rfl ?_
    refine enk K15 ?_
    refine ent_ret ?_
    exact retR2 (.inr rfl) Try.results54 (resr_cell (k := 2) ti27 rfl rfl rfl (cv_agg ⟨cv_int (by first | (rw [mulV_no hq0]; rfl) | (rw [mulV_ok hqk]; done) | (rw [mulV_ok hqk]; rfl) | (rw [mulV_ok hqk, mapT_all _ _ (by omega)]; done) | (rw [mulV_ok hqk, mapT_all _ _ (by omega)]; rfl)), cv_vec (k := 0) (off_x rfl) (by first | rfl | assumption | (simp; done) | (simp_all; done) | omega) (by first | (rw [mulV_no hq0]; rfl) | (rw [mulV_ok hqk]; done) | (rw [mulV_ok hqk]; rfl) | (rw [mulV_ok hqk, mapT_all _ _ (by omega)]; done) | (rw [mulV_ok hqk, mapT_all _ _ (by omega)]; rfl)), trivial⟩)) (resr_tmp (res_cv rfl (cv_int (by first | exact hqk.symm | exact hqe.symm))))

theorem rTurn_ok (rows : List (List Int)) (cols : Int) (hc0 : 0 ≤ cols) (hc1 : cols ≤ 1000) (hr : ∀ i : Int, 0 ≤ i → i < rows.length → ((ix [] rows i).length : Int) = cols) (hm : rows.length ≤ 1000) : Ctr Try.prog 81 [aSl 1 false aInts rows, aInt cols] (aSl 1 false aInts (turnL rows cols)) := by
 have htl := length_turnL rows cols
 refine ctr_of Try.call81 Try.func81 rfl rfl ?_
 intro w O
 refine ent_len 0 rfl (fun hlen0 => ?_)
 refine esk rfl ?_
 refine esk rfl ?_
 refine ent_seq fun _ K3 => ?_
 refine esk rfl ?_
 refine ent_block ?_
 refine ent_open 22 1 false aInts (fun _ => rfl) ?_
 refine ent_loop (fun (ss : Int × Option Nat × Nat) => match ss with | (c, rr2, cc2) => (⟨[(0, aSl 1 false aInts rows), (1, aInt cols), (5, aEx (vec rr2 (((turnL rows cols).take c.toNat).length) cc2)), (6, aInt c)], [oVec rr2 cc2 22 1 false aInts ((turnL rows cols).take c.toNat)]⟩ : St)) (fun (ss : Int × Option Nat × Nat) => match ss with | (c, rr2, cc2) => (0 ≤ c) ∧ (c ≤ cols)) (fun (ss : Int × Option Nat × Nat) => match ss with | (c, rr2, cc2) => (cols - c).toNat) (0, none, 0) ⟨(by first | rfl | assumption | omega | (simp_all; done) | grind), (by first | rfl | assumption | omega | (simp_all; done) | grind)⟩ (ent_rep ⟨rfl, rfl, slot_av ((show aEx (vec none ([] : List _).length 0) = aEx (vec none (((turnL rows cols).take (0 : Int).toNat).length) 0) from av_vec (congrArg List.length (show (turnL rows cols).take (0 : Int).toNat = [] by rfl).symm))), slot_av (av_int (show 0 = (0 : Int) by first | rfl | assumption | omega | (simp_all; done) | grind)), trivial⟩ (own_cons (own_vec (show (turnL rows cols).take (0 : Int).toNat = [] by rfl)) (rfl))) ?_
 rintro ⟨c, rr2, cc2⟩ ⟨h0, h1⟩
 show Ent _ ⟨_, [_]⟩ _
 have lt : ((turnL rows cols).take c.toNat).length = c.toNat := by rw [List.length_take]; omega
 refine ent_seq fun _ K5 => ?_
 refine esr rfl fun _ K6 => ?_
 refine ent_o rfl (ok_lss rfl rfl) ?_
 refine enk K6 ?_
 refine ent_condD rfl (fun h11 => ?_) (fun h11 => ?_)
 ·refine esp K5 ?_
  refine ent_seq fun _ K7 => ?_
  refine ent_block ?_
  refine esk rfl ?_
  refine ent_seq fun _ K9 => ?_
  refine esk rfl ?_
  refine ent_block ?_
  refine ent_open 3 1 false aInt (fun _ => rfl) ?_
  refine ent_loop (fun (ss : Int × Option Nat × Nat) => match ss with | (i, rr4, cc4) => (⟨[(0, aSl 1 false aInts rows), (1, aInt cols), (5, aEx (vec rr2 (((turnL rows cols).take c.toNat).length) cc2)), (6, aInt c), (7, aEx (vec rr4 (((colC rows c).take i.toNat).length) cc4)), (8, aInt i)], [oVec rr4 cc4 3 1 false aInt ((colC rows c).take i.toNat), oVec rr2 cc2 22 1 false aInts ((turnL rows cols).take c.toNat)]⟩ : St)) (fun (ss : Int × Option Nat × Nat) => match ss with | (i, rr4, cc4) => (0 ≤ i) ∧ (i ≤ rows.length)) (fun (ss : Int × Option Nat × Nat) => match ss with | (i, rr4, cc4) => (rows.length - i).toNat) (0, none, 0) ⟨(by first | rfl | assumption | omega | (simp_all; done) | grind), (by first | rfl | assumption | omega | (simp_all; done) | grind)⟩ (ent_rep ⟨rfl, rfl, rfl, rfl, slot_av ((show aEx (vec none ([] : List _).length 0) = aEx (vec none (((colC rows c).take (0 : Int).toNat).length) 0) from av_vec (congrArg List.length (show (colC rows c).take (0 : Int).toNat = [] by rfl).symm))), slot_av (av_int (show 0 = (0 : Int) by first | rfl | assumption | omega | (simp_all; done) | grind)), trivial⟩ (own_cons (own_vec (show (colC rows c).take (0 : Int).toNat = [] by rfl)) (rfl))) ?_
  rintro ⟨i, rr4, cc4⟩ ⟨i0, i1⟩
  show Ent _ ⟨_, [_, _]⟩ _
  have lc : ((colC rows c).take i.toNat).length = i.toNat := by rw [List.length_take, length_colC]; omega
  refine ent_seq fun _ K11 => ?_
  refine esr rfl fun _ K12 => ?_
  refine ent_o rfl (ok_len rfl Try.runUnderlying25 rfl) ?_
  refine ent_o rfl (ok_lss rfl rfl) ?_
  refine enk K12 ?_
  refine ent_condD rfl (fun h17 => ?_) (fun h17 => ?_)
  ·have hri := hr i i0 h17
   refine esp K11 ?_
   refine ent_seq fun _ K13 => ?_
   refine ent_block ?_
   refine ent_region ?_
   refine emm rfl ?_
   refine ent_o rfl (ok_index [] sl25 rfl rfl (by first | omega | (simp; omega)) (by first | omega | (simp; omega))) ?_
   refine ent_o rfl (ok_load ti22 rfl) ?_
   refine emm rfl ?_
   refine ent_o rfl (ok_index 0 sl22 rfl rfl (by first | omega | (simp; omega)) (by first | omega | (simp; omega))) ?_
   refine ent_o rfl (ok_load ti3 rfl) ?_
   refine ent_appendL (k := 0) (enc := aInt) (y := ix 0 (ix [] rows i) c) rfl rfl vt22 rfl rfl (by first | rfl | assumption | (simp; done) | (simp_all; done) | omega) rfl ((elem_one (one_int _))) (by first | omega | (simp only [List.length_append, List.length_cons, List.length_nil]; omega) | (simp; omega)) (by first | omega | (simp only [List.length_append, List.length_cons, List.length_nil]; omega) | (simp; omega)) (by decide) (fun b29_5 c29_5 => ?_)
   refine emm rfl ?_
   refine enk K13 ?_
   refine ent_region ?_
   refine emm rfl ?_
   refine ent_o rfl (ok_add rfl rfl (by first | omega | (simp; omega)) (by first | omega | (simp; omega))) ?_
   refine emm rfl ?_
   refine ent_nil ?_
   refine ent_again (s := (i, rr4, cc4)) (i + 1, (some b29_5), c29_5) ⟨(by first | rfl | assumption | omega | (simp_all; done) | grind), (by first | rfl | assumption | omega | (simp_all; done) | grind)⟩ (by first | omega | (dsimp only; omega)) (ent_rep ⟨rfl, rfl, rfl, rfl, slot_av (av_vec (congrArg List.length (show (colC rows c).take (i + 1).toNat = ((colC rows c).take i.toNat) ++ [ix 0 (ix [] rows i) c] by rw [take_succ_ix 0 (colC rows c) i0 (by rw [length_colC]; exact h17), ix_colC rows c i0 h17]).symm)), rfl, trivial⟩ (own_cons (own_vec (show (colC rows c).take (i + 1).toNat = ((colC rows c).take i.toNat) ++ [ix 0 (ix [] rows i) c] by rw [take_succ_ix 0 (colC rows c) i0 (by rw [length_colC]; exact h17), ix_colC rows c i0 h17])) (rfl)))
  ·refine ent_exit ?_
   refine ent_k K9 ?_
   refine ent_region ?_
   refine emm rfl ?_
   refine ent_give 0 31 rfl (cv_vec (k := 0) (off_erase rfl) (by first | rfl | assumption | (simp; done) | (simp_all; done) | omega) rfl) ?_
   refine ent_appendL (k := 0) (enc := aInts) (y := (colC rows c).take i.toNat) rfl rfl vt25 rfl rfl (by first | rfl | assumption | (simp; done) | (simp_all; done) | omega) rfl ((elem_one one_sl)) (by first | omega | (simp only [List.length_append, List.length_cons, List.length_nil]; omega) | (simp; omega)) (by first | omega | (simp only [List.length_append, List.length_cons, List.length_nil]; omega) | (simp; omega)) (by decide) (fun b33_6 c33_6 => ?_)
   refine emm rfl ?_
   refine enk K7 ?_
   refine ent_region ?_
   refine emm rfl ?_
   refine ent_o rfl (ok_add rfl rfl (by first | omega | (simp; omega)) (by first | omega | (simp; omega))) ?_
   refine emm rfl ?_
   refine ent_nil ?_
   refine ent_again (s := (c, rr2, cc2)) (c + 1, (some b33_6), c33_6) ⟨(by first | rfl | assumption | omega | (simp_all; done) | grind), (by first | rfl | assumption | omega | (simp_all; done) | grind)⟩ (by first | omega | (dsimp only; omega)) (ent_rep ⟨rfl, rfl, slot_av (av_vec (congrArg List.length (show (turnL rows cols).take (c + 1).toNat = ((turnL rows cols).take c.toNat) ++ [(colC rows c).take i.toNat] by rw [turnL_succ rows h0 h11, show (colC rows c).take i.toNat = colC rows c from List.take_of_length_le (by rw [length_colC]; omega)]).symm)), rfl, trivial⟩ (own_cons (own_vec (show (turnL rows cols).take (c + 1).toNat = ((turnL rows cols).take c.toNat) ++ [(colC rows c).take i.toNat] by rw [turnL_succ rows h0 h11, show (colC rows c).take i.toNat = colC rows c from List.take_of_length_le (by rw [length_colC]; omega)])) (rfl)))
 ·refine ent_exit ?_
  refine ent_k K3 ?_
  refine esk rfl ?_
  refine ent_ret ?_
  exact retR1 (.inr rfl) Try.results81 (resr_tmp (res_cv rfl (cv_vec (k := 0) (off_x rfl) (by first | rfl | assumption | (simp; done) | (simp_all; done) | omega) (by rw [List.take_of_length_le (by omega)]))))

theorem rTranspose_ok (f : Fld) (m : Mat)  : Ctr Try.prog 55 [aFld f, aMat m] (aTup [aMat (turM f m), aInt (mErr f m)]) := by
 refine ctr_of Try.call55 Try.func55 rfl rfl ?_
 intro w O
 refine ent_lenC 0 2 rfl rfl (fun hlen0_2 => ?_)
 refine ent_lenC 1 1 rfl rfl (fun hlen1_1 => ?_)
 refine esr rfl fun _ K1 => ?_
 refine ent_boxS rfl rfl (AllOne.mem ⟨(one_int _), (one_int _), one_sl, trivial⟩) (fun b2_1 => ?_)
 refine ent_boxS rfl rfl (AllOne.mem ⟨(one_int _), one_sl, trivial⟩) (fun b3_2 => ?_)
 refine ent_alloc (z := .agg #[.int .i64 0, .slice none 0 0]) [aInt 0, aEx (.slice none 0 0)] rfl zv27 rfl zc27 (fun b4_3 => ?_)
 refine emm rfl ?_
 refine enk K1 ?_
 refine esr rfl fun _ K2 => ?_
 refine ent_o rfl (ok_loadBS (k := 2) ti24 rfl rfl rfl) ?_
 refine ent_o rfl (ok_loadBS (k := 1) ti27 rfl rfl rfl) ?_
 refine ent_o rfl (ok_call (rMCheck_ok f m) rfl) ?_
 refine emm rfl ?_
 refine enk K2 ?_
 refine ent_seq fun _ K3 => ?_
 refine esr rfl fun _ K4 => ?_
 refine ent_o rfl (ok_neq rfl rfl) ?_
 refine enk K4 ?_
 refine ent_condD rfl (fun h11 => ?_) (fun h11 => ?_)
 ·have hm0 := h11
  refine esr rfl fun _ K5 => ?_
  refine ent_o rfl (ok_build st27 (As := [aInt 0, aEx (.slice none 0 0)]) z27 (rfl)) ?_
  refine emm rfl ?_
  refine ent_storeBS (k := 0) Try.sizeOf27 rfl rfl rfl (AllOne.mem ⟨(one_int _), (one_ex rfl), trivial⟩) rfl rfl ?_
  show Ent _ ⟨_, [_, _, _]⟩ _
  refine emm rfl ?_
  refine enk K5 ?_
  refine ent_ret ?_
  exact retR2 (.inr rfl) Try.results55 (resr_cell (k := 0) ti27 rfl rfl rfl (cv_agg ⟨cv_int (by first | (rw [turM_no hm0]; rfl) | (rw [turM_ok hm0]; done) | (rw [turM_ok hm0]; rfl)), cv_nil (fun _ => rfl) (by first | (rw [turM_no hm0]; rfl) | (rw [turM_ok hm0]; done) | (rw [turM_ok hm0]; rfl)), trivial⟩)) (resr_tmp (res_cv rfl (cv_int (by first | rfl | exact hm0.symm))))
 ·have hm0 := Classical.not_not.1 h11
  have hF := (mErr_zero.1 hm0).1
  have hme := (mErr_zero.1 hm0).2
  have hsz := mat_size hme
  have hgm := mat_good hme
  have hrl : ∀ i : Int, 0 ≤ i → i < m.rows.length → ((ix [] m.rows i).length : Int) = m.cols := fun i i0 i1 => row_len hme i0 i1
  refine esp K3 ?_
  refine ent_seq fun _ K6 => ?_
  refine ent_draw 9 mixed (by kernel_rfl) (by kernel_rfl) (by kernel_rfl) ?_
  refine dw_o rfl (ok_fieldAddrEx Try.runUnderlying27 rfl Try.sizeOf25 (by decide) rfl) ?_
  refine dw_o rfl (ok_loadB (k := 1) Try.isAgg25 rfl rfl rfl) ?_
  refine dw_o rfl (ok_len rfl Try.runUnderlying25 rfl) ?_
  refine dw_o rfl (ok_fieldAddrEx Try.runUnderlying27 rfl Try.sizeOf25 (by decide) rfl) ?_
  refine dw_o rfl (ok_loadB (k := 1) Try.isAgg25 rfl rfl rfl) ?_
  refine dw_o rfl (ok_fieldAddrEx Try.runUnderlying27 rfl Try.sizeOf3 (by decide) rfl) ?_
  refine dw_o rfl (ok_loadB (k := 1) Try.isAgg3 rfl rfl rfl) ?_
  refine dw_o rfl (ok_call (rTurn_ok m.rows m.cols (by first | rfl | assumption | omega | (simp_all; done) | grind) (by first | rfl | assumption | omega | (simp_all; done) | grind) (by first | rfl | assumption | omega | (simp_all; done) | grind) (by first | rfl | assumption | omega | (simp_all; done) | grind)) rfl) ?_
  refine dw_o rfl (ok_build st27 (As := [aInt 0, aEx (.slice none 0 0)]) z27 (⟨0, 1, rfl, .inl ⟨rfl, _, rfl, (one_int _), rfl, ⟨1, 1, rfl, .inl ⟨rfl, _, rfl, one_sl, rfl, rfl⟩⟩⟩⟩)) ?_
  refine dw_nil ?_
  refine ent_storeBS (k := 0) Try.sizeOf27 rfl rfl rfl (AllOne.mem ⟨(one_int _), one_sl, trivial⟩) rfl rfl ?_
  show Ent _ ⟨_, [_, _, _]⟩ _
  refine emm rfl ?_
  refine enk K6 ?_
  refine ent_ret ?_
  exact retR2 (.inr rfl) Try.results55 (resr_cell (k := 0) ti27 rfl rfl rfl (cv_agg ⟨cv_int (by first | (rw [turM_no hm0]; rfl) | (rw [turM_ok hm0]; done) | (rw [turM_ok hm0]; rfl)), cv_sl sub_x (by first | (rw [turM_no hm0]; rfl) | (rw [turM_ok hm0]; done) | (rw [turM_ok hm0]; rfl)), trivial⟩)) (resr_tmp (res_cv rfl (cv_int (by first | rfl | exact hm0.symm))))

theorem cloneP_ok (l : List (List Int)) (hl : l.length ≤ 1000000) (hr : ∀ x ∈ l, x.length ≤ 1000000) : Ctr Try.prog 70 [aSl 1 false aInts l] (aSl 1 false aInts l) := by
 refine ctr_of Try.call70 Try.func70 rfl rfl ?_
 intro w O
 refine ent_len 0 rfl (fun hlen0 => ?_)
 refine esk rfl ?_
 refine esr rfl fun _ K2 => ?_
 refine ent_o rfl (ok_len rfl Try.runUnderlying25 rfl) ?_
 refine ent_make aH Hdr.no rfl vt25 rfl rfl (by omega) (by omega) (by omega) (fun _ _ => rfl) (AllV.mem ⟨rfl, trivial⟩) (fun b8_1 => ?_)
 refine ent_rowsN 3 aInt (((↑l.length : Int)).toNat) ?_
 refine emm rfl ?_
 refine enk K2 ?_
 refine ent_seq fun _ K3 => ?_
 refine esr rfl fun _ K4 => ?_
 refine ent_o rfl (ok_len rfl Try.runUnderlying25 rfl) ?_
 refine emm rfl ?_
 refine enk K4 ?_
 refine ent_block ?_
 refine ent_loop (fun (ss : Int × List Hdr) => match ss with | (i, Hs) => (⟨[(3, aEx (vec (some b8_1) (((↑l.length : Int)).toNat) (((↑l.length : Int)).toNat))), (9, aSl 1 false aInts l), (10, aInt (↑l.length : Int)), (11, aInt i)], [oRws 3 aInt [] Hs (mixG l (List.replicate l.length []) i), oVec (some b8_1) (((↑l.length : Int)).toNat) 22 1 false aH Hs]⟩ : St)) (fun (ss : Int × List Hdr) => match ss with | (i, Hs) => (0 ≤ i) ∧ (i ≤ l.length) ∧ (Hs.length = l.length)) (fun (ss : Int × List Hdr) => match ss with | (i, Hs) => (l.length - i).toNat) (0, List.replicate (((↑l.length : Int)).toNat) Hdr.no) ⟨(by first | rfl | assumption | omega | (simp_all; done) | grind), (by first | rfl | assumption | omega | (simp_all; done) | grind), (by simp)⟩ (ent_rep ⟨rfl, rfl, rfl, slot_av (av_int (show 0 = (0 : Int) by first | rfl | assumption | omega | (simp_all; done) | grind)), trivial⟩ (own_cons (own_rws (show (List.replicate (((↑l.length : Int)).toNat) Hdr.no) = List.replicate (((↑l.length : Int)).toNat) Hdr.no by first | rfl | assumption | omega | (simp_all; done) | grind) (show mixG l (List.replicate l.length []) (0 : Int) = List.replicate (((↑l.length : Int)).toNat) [] by first | exact mixG_zero _ _ | (rw [mixG_zero]; congr 1; omega))) (rfl))) ?_
 rintro ⟨i, Hs⟩ ⟨h0, h1, hH⟩
 show Ent _ ⟨_, [_, _]⟩ _
 refine esr rfl fun _ K5 => ?_
 refine ent_o rfl (ok_lss rfl rfl) ?_
 refine enk K5 ?_
 refine ent_seq fun _ K6 => ?_
 refine ent_condD rfl (fun h12 => ?_) (fun h12 => ?_)
 ·refine esp K6 ?_
  refine ent_seq fun _ K7 => ?_
  refine ent_block ?_
  refine esr rfl fun _ K8 => ?_
  refine ent_o rfl (ok_index [] sl25 rfl rfl (by omega) (by omega)) ?_
  refine ent_o rfl (ok_load ti22 rfl) ?_
  refine emm rfl ?_
  refine enk K8 ?_
  refine ent_region ?_
  refine emm rfl ?_
  refine ent_callN rfl (Clone_ok (ix [] l i) (hr _ (ix_mem [] l h0 h12))) (ArgsA.ok ⟨arg_a rfl (cv_id (sub_lent _)), trivial⟩) (fun r19 c19 => ?_)
  refine ent_o rfl (ok_indexV sl25 rfl rfl (by omega) (by omega)) ?_
  refine ent_storeV (k := 2) (z := ⟨r19, ((ix [] l i)).length, c19⟩) ti22 rfl rfl rfl (elem_one (one_ex rfl)) (by omega) (by omega) ?_
  refine ent_putRow 1 0 i (m := ((ix [] l i)).length) [] rfl rfl (by decide) (by simp) (by first | rfl | assumption | (simp; done) | (simp_all; done) | omega) ?_
  refine enk K7 ?_
  refine ent_region ?_
  refine ent_o rfl (ok_add rfl rfl (by omega) (by omega)) ?_
  refine emm rfl ?_
  refine ent_nil ?_
  refine ent_again (s := (i, Hs)) (i + 1, List.set Hs (i).toNat ⟨r19, ((ix [] l i)).length, c19⟩) ⟨(by first | rfl | assumption | omega | (simp_all; done) | grind), (by first | rfl | assumption | omega | (simp_all; done) | grind), (by simp; exact hH)⟩ (by first | omega | (dsimp only; omega)) (ent_rep ⟨rfl, rfl, rfl, rfl, trivial⟩ (own_cons (own_rws (show (List.set Hs (i).toNat ⟨r19, ((ix [] l i)).length, c19⟩) = List.set Hs (i).toNat ⟨r19, ((ix [] l i)).length, c19⟩ by first | rfl | assumption | omega | (simp_all; done) | grind) (show mixG l (List.replicate l.length []) (i + 1) = List.set (mixG l (List.replicate l.length []) i) (i).toNat (ix [] l i) by exact mixG_set [] l _ h0 h12 (by simp))) (own_cons (own_vec (show (List.set Hs (i).toNat ⟨r19, ((ix [] l i)).length, c19⟩) = List.set Hs (i).toNat (⟨r19, ((ix [] l i)).length, c19⟩) by first | rfl | assumption | omega | (simp_all; done) | grind)) (rfl))))
 ·have lm : (mixG l (List.replicate l.length []) i).length = l.length := by rw [length_mixG _ _ (by simp) h0 (by omega)]
  refine ent_exit ?_
  refine ent_k K3 ?_
  refine esk rfl ?_
  refine ent_ret ?_
  refine ent_frzRows 1 0 rfl rfl (by decide) ?_
  exact retR1 (.inr rfl) Try.results70 (resr_tmp (res_cv rfl (cv_vec (k := 0) (off_x rfl) (by first | rfl | assumption | (simp; done) | (simp_all; done) | omega) (by exact mixG_all _ _ (by omega) (by simp)))))
end Go.Proofs.Ytamhdlkfhhpdpaa

