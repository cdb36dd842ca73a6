/-
  Facts for the laws on matrices.
-/
import Derived.Test.YtamhdlkfhhpdpaaProg
import Derived.Test.YtamhdlkfhhpdpaaWTab
import Derived.Test.YtamhdlkfhhpdpaaPlainOp
import Derived.Test.YtamhdlkfhhpdpaaCzLib
import Derived.Test.YtamhdlkfhhpdpaaW1
import Derived.Test.YtamhdlkfhhpdpaaW4
import Derived.Test.YtamhdlkfhhpdpaaW5
import Derived.Test.YtamhdlkfhhpdpaaW6
import Derived.Test.YtamhdlkfhhpdpaaW9
import Derived.Test.YtamhdlkfhhpdpaaW10
import Derived.Test.YtamhdlkfhhpdpaaW11
import Derived.Test.YtamhdlkfhhpdpaaW12
import Derived.Test.YtamhdlkfhhpdpaaW13
import Derived.Test.YtamhdlkfhhpdpaaW14
import Derived.Test.YtamhdlkfhhpdpaaW15
import Derived.Test.YtamhdlkfhhpdpaaW16
import Derived.Test.YtamhdlkfhhpdpaaW17
import Derived.Test.YtamhdlkfhhpdpaaW18
import Derived.Test.YtamhdlkfhhpdpaaW19
import Derived.Test.YtamhdlkfhhpdpaaW20
import Derived.Test.YtamhdlkfhhpdpaaW21
open Go Go.Cw
namespace Go.Proofs.Ytamhdlkfhhpdpaa
set_option maxRecDepth 100000
set_option linter.unusedVariables false
set_option linter.unusedSimpArgs false
theorem rPick_ok (v set : List Int) (hs : ∀ p ∈ set, 0 ≤ p ∧ p < v.length) (hl : set.length ≤ 100000) : CtrF Try.prog 25 [aSl 1 false aInt v, aSl 1 false aInt set] (aVec 3 1 false aInt (pickL v set)) := by
 refine ctrF_of Try.call25 Try.func25 rfl rfl ?_
 intro w O
 refine ent_len 0 rfl (fun hlen0 => ?_)
 refine ent_len 1 rfl (fun hlen1 => ?_)
 refine esk rfl ?_
 refine esr rfl fun _ K2 => ?_
 refine ent_o rfl (ok_len rfl Try.runUnderlying22 rfl) ?_
 refine ent_make aInt 0 rfl vt22 rfl rfl (by omega) (by omega) (by omega) (fun _ _ => rfl) (AllV.mem ⟨rfl, trivial⟩) (fun b9_1 => ?_)
 refine emm rfl ?_
 refine enk K2 ?_
 refine ent_seq fun _ K3 => ?_
 refine esk rfl ?_
 refine ent_block ?_
 refine ent_loop (fun (i : Int) => (⟨[(0, aSl 1 false aInt v), (1, aSl 1 false aInt set), (5, aEx (vec (some b9_1) (((↑set.length : Int)).toNat) (((↑set.length : Int)).toNat))), (6, aInt i)], [oVec (some b9_1) (((↑set.length : Int)).toNat) 3 1 false aInt (mixL (pickL v set) (List.replicate set.length 0) i)]⟩ : St)) (fun (i : Int) => (0 ≤ i) ∧ (i ≤ set.length)) (fun (i : Int) => (set.length - i).toNat) 0 ⟨(by first | rfl | assumption | omega | (simp_all; done) | grind), (by first | rfl | assumption | omega | (simp_all; done) | grind)⟩ (ent_rep ⟨rfl, rfl, rfl, slot_av (av_int (show 0 = (0 : Int) by first | rfl | assumption | omega | (simp_all; done) | grind)), trivial⟩ (own_cons (own_vec (show mixL (pickL v set) (List.replicate set.length 0) (0 : Int) = List.replicate (((↑set.length : Int)).toNat) 0 by first | exact mixL_zero _ _ | (rw [mixL_zero]; congr 1; omega))) (rfl))) ?_
 rintro i ⟨h0, h1⟩
 show Ent _ ⟨_, [_]⟩ _
 have lm : (mixL (pickL v set) (List.replicate set.length 0) i).length = set.length := by rw [length_mixL _ _ (by simp)]; simp
 refine ent_seq fun _ K5 => ?_
 refine esr rfl fun _ K6 => ?_
 refine ent_o rfl (ok_len rfl Try.runUnderlying22 rfl) ?_
 refine ent_o rfl (ok_lss rfl rfl) ?_
 refine enk K6 ?_
 refine ent_condD rfl (fun h13 => ?_) (fun h13 => ?_)
 ·have hp := hs _ (ix_mem 0 set h0 h13)
  refine esp K5 ?_
  refine ent_seq fun _ K7 => ?_
  refine ent_block ?_
  refine ent_region ?_
  refine emm rfl ?_
  refine ent_o rfl (ok_index 0 sl22 rfl rfl (by omega) (by omega)) ?_
  refine ent_o rfl (ok_load ti3 rfl) ?_
  refine ent_o rfl (ok_index 0 sl22 rfl rfl (by omega) (by omega)) ?_
  refine ent_o rfl (ok_load ti3 rfl) ?_
  refine ent_o rfl (ok_indexV sl22 rfl rfl (by omega) (by omega)) ?_
  refine ent_storeV (k := 0) (z := ix 0 v (ix 0 set i)) ti3 rfl rfl rfl (elem_one (one_int _)) (by omega) (by omega) ?_
  refine enk K7 ?_
  refine ent_region ?_
  refine emm rfl ?_
  refine ent_o rfl (ok_add rfl rfl (by omega) (by omega)) ?_
  refine emm rfl ?_
  refine ent_nil ?_
  refine ent_again (s := (i)) (i + 1) ⟨(by first | rfl | assumption | omega | (simp_all; done) | grind), (by first | rfl | assumption | omega | (simp_all; done) | grind)⟩ (by first | omega | (dsimp only; omega)) (ent_rep ⟨rfl, rfl, rfl, rfl, trivial⟩ (own_cons (own_vec (show mixL (pickL v set) (List.replicate set.length 0) (i + 1) = List.set (mixL (pickL v set) (List.replicate set.length 0) i) (i).toNat (ix 0 v (ix 0 set i)) by exact (mixL_set _ _ h0 (by simp; omega) (by simp) (ix_pickL h0 h13).symm).symm)) (rfl)))
 ·refine ent_exit ?_
  refine ent_k K3 ?_
  refine esk rfl ?_
  refine ent_ret ?_
  exact retR1 (.inr rfl) Try.results25 (resr_tmp (res_cv rfl (cvF_vecV (k := 0) flat_int rfl rfl (by first | rfl | assumption | (simp; done) | (simp_all; done) | omega) (by exact mixL_all _ _ (by simp; omega) (by simp; omega)))))

theorem mColumns_ok (f : Fld) (m : Mat) (set : List Int)  : Ctr Try.prog 48 [aFld f, aMat m, aSl 1 false aInt set] (aTup [aMat (colM f m set), aInt (colE f m set)]) := by
 refine ctr_of Try.call48 Try.func48 rfl rfl ?_
 intro w O
 refine ent_lenC 0 2 rfl rfl (fun hlen0_2 => ?_)
 refine ent_lenC 1 1 rfl rfl (fun hlen1_1 => ?_)
 refine ent_len 2 rfl (fun hlen2 => ?_)
 refine esr rfl fun _ K1 => ?_
 refine ent_boxS rfl rfl (AllOne.mem ⟨(one_int _), (one_int _), one_sl, trivial⟩) (fun b3_1 => ?_)
 refine ent_boxS rfl rfl (AllOne.mem ⟨(one_int _), one_sl, trivial⟩) (fun b4_2 => ?_)
 refine ent_alloc (z := .agg #[.int .i64 0, .slice none 0 0]) [aInt 0, aEx (.slice none 0 0)] rfl zv27 rfl zc27 (fun b6_3 => ?_)
 refine emm rfl ?_
 refine enk K1 ?_
 refine ent_seq fun _ K2 => ?_
 refine esr rfl fun _ K3 => ?_
 refine ent_o rfl (ok_loadBS (k := 2) ti24 rfl rfl rfl) ?_
 refine ent_o rfl (ok_loadBS (k := 1) ti27 rfl rfl rfl) ?_
 refine ent_o rfl (ok_build1 (enc := aMat) (y := (⟨m.cols, m.rows⟩ : Mat)) vt67 rfl (elem_agg (AllOne.mem ⟨(one_int _), one_sl, trivial⟩)) (by decide)) ?_
 rcases Classical.em (mErr f m = 0) with hm0 | hm0
 ·refine ent_o rfl (ok_call (open_ok f [(⟨m.cols, m.rows⟩ : Mat)] (mErr_zero.1 hm0).1 (by intro q hq; simp only [List.mem_cons, List.not_mem_nil, or_false] at hq; subst hq; exact (mErr_zero.1 hm0).2) (by simp)) rfl) ?_
  refine emm rfl ?_
  refine ent_o rfl (ok_extract rfl rfl) ?_
  refine ent_o rfl (ok_extract rfl rfl) ?_
  refine emm rfl ?_
  refine enk K3 ?_
  refine esr rfl fun _ K4 => ?_
  refine ent_o rfl (ok_neq rfl rfl) ?_
  refine enk K4 ?_
  refine ent_condFP rfl (by decide) ?_
  refine esp K2 ?_
  refine ent_seq fun _ K5 => ?_
  refine ent_seq fun _ K6 => ?_
  have hF := (mErr_zero.1 hm0).1
  have hme := (mErr_zero.1 hm0).2
  have hsz := mat_size hme
  have hgm := mat_good hme
  refine ent_region ?_
  refine emm rfl ?_
  refine ent_o rfl (ok_len rfl Try.runUnderlying22 rfl) ?_
  refine ent_o rfl (ok_gtr rfl rfl) ?_
  refine enk K6 ?_
  refine ent_condD rfl (fun h31 => ?_) (fun h31 => ?_)
  ·have hqe : colE f m set = 8 := colE_big hm0 (by omega)
   have hq0 : colE f m set ≠ 0 := by rw [hqe]; decide
   refine esr rfl fun _ K7 => ?_
   refine ent_o rfl (ok_build st27 (As := [aInt 0, aEx (.slice none 0 0)]) z27 (rfl)) ?_
   refine ent_storeBS (k := 0) Try.sizeOf27 rfl rfl rfl (AllOne.mem ⟨(one_int _), (one_ex rfl), trivial⟩) rfl rfl ?_
   show Ent _ ⟨_, [_, _, _]⟩ _
   refine emm rfl ?_
   refine enk K7 ?_
   refine ent_ret ?_
   exact retR2 (.inr rfl) Try.results48 (resr_cell (k := 0) ti27 rfl rfl rfl (cv_agg ⟨cv_int (by first | (rw [colM_no hq0]; rfl) | (rw [colM_ok hqk]; done) | (rw [colM_ok hqk]; rfl) | (rw [colM_ok hqk, mapT_all _ _ (by omega)]; done) | (rw [colM_ok hqk, mapT_all _ _ (by omega)]; rfl)), cv_nil (fun _ => rfl) (by first | (rw [colM_no hq0]; rfl) | (rw [colM_ok hqk]; done) | (rw [colM_ok hqk]; rfl) | (rw [colM_ok hqk, mapT_all _ _ (by omega)]; done) | (rw [colM_ok hqk, mapT_all _ _ (by omega)]; rfl)), trivial⟩)) (resr_tmp (res_cv rfl (cv_int (by first | exact hqk.symm | exact hqe.symm | (rw [hqe]; exact opErr_one f m)))))
  ·refine esp K5 ?_
   refine ent_seq fun _ K8 => ?_
   refine esr rfl fun _ K9 => ?_
   refine ent_o rfl (ok_len rfl Try.runUnderlying22 rfl) ?_
   refine emm rfl ?_
   refine enk K9 ?_
   refine ent_block ?_
   refine ent_loop (fun (i : Int) => (⟨[(2, aSl 1 false aInt set), (4, aEx (.pointer (some ⟨b4_2, 0, none⟩))), (6, aEx (.pointer (some ⟨b6_3, 0, none⟩))), (33, aSl 1 false aInt set), (34, aInt (↑set.length : Int)), (35, aInt i)], [oBox b6_3 27 [aInt 0, aEx (.slice none 0 0)], oBox b4_2 27 [aInt m.cols, aSl 1 false aInts m.rows], oBox b3_1 24 [aInt f.P, aInt f.M, aSl 1 false aInt f.mod]]⟩ : St)) (fun (i : Int) => (0 ≤ i) ∧ (i ≤ set.length) ∧ (∀ j ∈ set.take i.toNat, ¬ (j < 0 ∨ m.cols ≤ j))) (fun (i : Int) => (set.length - i).toNat) 0 ⟨(by first | rfl | assumption | omega | (simp_all; done) | grind), (by first | rfl | assumption | omega | (simp_all; done) | grind), (by simp)⟩ (ent_rep ⟨rfl, rfl, rfl, rfl, rfl, slot_av (av_int (show 0 = (0 : Int) by first | rfl | assumption | omega | (simp_all; done) | grind)), trivial⟩ rfl) ?_
   rintro i ⟨h0, h1, hn⟩
   show Ent _ ⟨_, [_, _, _]⟩ _
   refine esr rfl fun _ K10 => ?_
   refine ent_o rfl (ok_lss rfl rfl) ?_
   refine enk K10 ?_
   refine ent_seq fun _ K11 => ?_
   refine ent_condD rfl (fun h36 => ?_) (fun h36 => ?_)
   ·refine esp K11 ?_
    refine ent_seq fun _ K12 => ?_
    refine ent_block ?_
    refine esr rfl fun _ K13 => ?_
    refine ent_o rfl (ok_index 0 sl22 rfl rfl (by omega) (by omega)) ?_
    refine ent_o rfl (ok_load ti3 rfl) ?_
    refine emm rfl ?_
    refine enk K13 ?_
    refine ent_seq fun _ K14 => ?_
    refine ent_cut (⟨[(2, aSl 1 false aInt set), (4, aEx (.pointer (some ⟨b4_2, 0, none⟩))), (6, aEx (.pointer (some ⟨b6_3, 0, none⟩))), (33, aSl 1 false aInt set), (34, aInt (↑set.length : Int)), (35, aInt i), (46, aBool (decide (((ix 0 set i) < 0) ∨ (m.cols ≤ (ix 0 set i)))))], [oBox b6_3 27 [aInt 0, aEx (.slice none 0 0)], oBox b4_2 27 [aInt m.cols, aSl 1 false aInts m.rows], oBox b3_1 24 [aInt f.P, aInt f.M, aSl 1 false aInt f.mod]]⟩) ?_ ?_
    ·refine ent_region ?_
     refine emm rfl ?_
     refine ent_o rfl (ok_lss rfl rfl) ?_
     refine emm rfl ?_
     refine ent_guardXDf rfl rfl rfl rfl (fun hg41 => ?_) (fun hg41 => ?_)
     ·refine emm rfl ?_
      refine ent_guardXT rfl rfl rfl rfl (decide_eq_false hg41) ?_
      refine ent_o rfl (ok_fieldAddrEx Try.runUnderlying27 rfl Try.sizeOf3 (by decide) rfl) ?_
      refine ent_guardXT rfl rfl rfl rfl (decide_eq_false hg41) ?_
      refine ent_o rfl (ok_loadB (k := 1) Try.isAgg3 rfl rfl rfl) ?_
      refine ent_guardXT rfl rfl rfl rfl (decide_eq_false hg41) ?_
      refine ent_o rfl (ok_geq rfl rfl) ?_
      refine ent_o rfl (ok_pickF rfl (decide_eq_false hg41) rfl) ?_
      refine ent_nil ?_
      exact ent_rep ⟨rfl, rfl, rfl, rfl, rfl, rfl, slot_bool (dq_Q ((or_iff_right hg41).trans Iff.rfl)), trivial⟩ rfl
     ·refine ent_guardXF rfl rfl rfl rfl (decide_eq_true hg41) ?_
      refine ent_guardXF rfl rfl rfl rfl (decide_eq_true hg41) ?_
      refine ent_guardXF rfl rfl rfl rfl (decide_eq_true hg41) ?_
      refine ent_o rfl (ok_pickT rfl (decide_eq_true hg41) rfl) ?_
      refine ent_nil ?_
      exact ent_rep ⟨rfl, rfl, rfl, rfl, rfl, rfl, slot_bool (dq_T rfl (Or.inl hg41)), trivial⟩ rfl
    refine ent_k K14 ?_
    refine ent_condD rfl (fun h46 => ?_) (fun h46 => ?_)
    ·have hqe : colE f m set = 6 := colE_out hm0 (by omega) h0 h36 h46
     have hq0 : colE f m set ≠ 0 := by rw [hqe]; decide
     refine esr rfl fun _ K15 => ?_
     refine ent_o rfl (ok_build st27 (As := [aInt 0, aEx (.slice none 0 0)]) z27 (rfl)) ?_
     refine ent_storeBS (k := 0) Try.sizeOf27 rfl rfl rfl (AllOne.mem ⟨(one_int _), (one_ex rfl), trivial⟩) rfl rfl ?_
     show Ent _ ⟨_, [_, _, _]⟩ _
     refine emm rfl ?_
     refine enk K15 ?_
     refine ent_ret ?_
     exact retR2 (.inr rfl) Try.results48 (resr_cell (k := 0) ti27 rfl rfl rfl (cv_agg ⟨cv_int (by first | (rw [colM_no hq0]; rfl) | (rw [colM_ok hqk]; done) | (rw [colM_ok hqk]; rfl) | (rw [colM_ok hqk, mapT_all _ _ (by omega)]; done) | (rw [colM_ok hqk, mapT_all _ _ (by omega)]; rfl)), cv_nil (fun _ => rfl) (by first | (rw [colM_no hq0]; rfl) | (rw [colM_ok hqk]; done) | (rw [colM_ok hqk]; rfl) | (rw [colM_ok hqk, mapT_all _ _ (by omega)]; done) | (rw [colM_ok hqk, mapT_all _ _ (by omega)]; rfl)), trivial⟩)) (resr_tmp (res_cv rfl (cv_int (by first | exact hqk.symm | exact hqe.symm | (rw [hqe]; exact opErr_one f m)))))
    ·refine esp K12 ?_
     refine ent_region ?_
     refine ent_o rfl (ok_add rfl rfl (by omega) (by omega)) ?_
     refine emm rfl ?_
     refine ent_nil ?_
     refine ent_again (s := (i)) (i + 1) ⟨(by first | rfl | assumption | omega | (simp_all; done) | grind), (by first | rfl | assumption | omega | (simp_all; done) | grind), (not_take_succ 0 h0 h36 hn h46)⟩ (by first | omega | (dsimp only; omega)) (ent_rep ⟨rfl, rfl, rfl, rfl, rfl, rfl, trivial⟩ rfl)
   ·have hset : ∀ j ∈ set, ¬ (j < 0 ∨ m.cols ≤ j) := take_all (by omega) hn
    have hqk : colE f m set = 0 := colE_ok hm0 (by omega) hset
    refine ent_exit ?_
    refine ent_k K8 ?_
    refine esr rfl fun _ K16 => ?_
    refine ent_o rfl (ok_len rfl Try.runUnderlying22 rfl) ?_
    refine ent_o rfl (ok_build st27 (As := [aInt 0, aEx (.slice none 0 0)]) z27 (⟨0, 1, rfl, .inl ⟨rfl, _, rfl, (one_int _), rfl, rfl⟩⟩)) ?_
    refine ent_alloc (z := .agg #[.int .i64 0, .slice none 0 0]) [aInt 0, aEx (.slice none 0 0)] rfl zv27 rfl zc27 (fun b12_4 => ?_)
    refine ent_storeBS (k := 0) Try.sizeOf27 rfl rfl rfl (AllOne.mem ⟨(one_int _), (one_ex rfl), trivial⟩) rfl rfl ?_
    show Ent _ ⟨_, [_, _, _, _]⟩ _
    refine enk K16 ?_
    refine ent_seq fun _ K17 => ?_
    refine esr rfl fun _ K18 => ?_
    refine ent_o rfl (ok_fieldAddrEx Try.runUnderlying27 rfl Try.sizeOf25 (by decide) rfl) ?_
    refine ent_o rfl (ok_loadB (k := 2) Try.isAgg25 rfl rfl rfl) ?_
    refine ent_o rfl (ok_len rfl Try.runUnderlying25 rfl) ?_
    refine emm rfl ?_
    refine enk K18 ?_
    refine ent_block ?_
    refine ent_open 22 1 false aInts (fun _ => rfl) ?_
    refine ent_loop (fun (ss : Int × Option Nat × Nat) => match ss with | (i, rr6, cc6) => (⟨[(2, aSl 1 false aInt set), (6, aEx (.pointer (some ⟨b6_3, 0, none⟩))), (12, aEx (.pointer (some ⟨b12_4, 0, none⟩))), (53, aSl 1 false aInts m.rows), (54, aInt (↑m.rows.length : Int)), (55, aInt i)], [oVec rr6 cc6 22 1 false aInts (mapT (fun row => pickL row set) m.rows i), oBox b12_4 27 [aInt (↑set.length : Int), aEx (vec rr6 ((mapT (fun row => pickL row set) m.rows i).length) cc6)], oBox b6_3 27 [aInt 0, aEx (.slice none 0 0)], oBox b4_2 27 [aInt m.cols, aSl 1 false aInts m.rows], oBox b3_1 24 [aInt f.P, aInt f.M, aSl 1 false aInt f.mod]]⟩ : St)) (fun (ss : Int × Option Nat × Nat) => match ss with | (i, rr6, cc6) => (0 ≤ i) ∧ (i ≤ m.rows.length)) (fun (ss : Int × Option Nat × Nat) => match ss with | (i, rr6, cc6) => (m.rows.length - i).toNat) (0, none, 0) ⟨(by first | rfl | assumption | omega | (simp_all; done) | grind), (by first | rfl | assumption | omega | (simp_all; done) | grind)⟩ (ent_rep ⟨rfl, rfl, rfl, rfl, rfl, slot_av (av_int (show 0 = (0 : Int) by first | rfl | assumption | omega | (simp_all; done) | grind)), trivial⟩ (own_cons (own_vec (show mapT (fun row => pickL row set) m.rows (0 : Int) = [] by first | rfl | simp [mapT_zero])) (own_cons (own_box (av_cons rfl (av_cons ((by first | rfl | simp [mapT_zero])) (rfl)))) (rfl)))) ?_
    rintro ⟨i, rr6, cc6⟩ ⟨k0, k1⟩
    show Ent _ ⟨_, [_, _, _, _, _]⟩ _
    have lf := length_mapT (fun row => pickL row set) m.rows (i := i) (by omega)
    refine esr rfl fun _ K19 => ?_
    refine ent_o rfl (ok_lss rfl rfl) ?_
    refine enk K19 ?_
    refine ent_seq fun _ K20 => ?_
    refine ent_condD rfl (fun h56 => ?_) (fun h56 => ?_)
    ·have hri := row_len hme k0 h56
     refine esp K20 ?_
     refine ent_seq fun _ K21 => ?_
     refine ent_block ?_
     refine esr rfl fun _ K22 => ?_
     refine ent_o rfl (ok_index [] sl25 rfl rfl (by omega) (by omega)) ?_
     refine ent_o rfl (ok_load ti22 rfl) ?_
     refine emm rfl ?_
     refine enk K22 ?_
     refine esr rfl fun _ K23 => ?_
     refine ent_o rfl (ok_len rfl Try.runUnderlying22 rfl) ?_
     refine ent_make aInt 0 rfl vt22 rfl rfl (by omega) (by omega) (by omega) (fun _ _ => rfl) (AllV.mem ⟨rfl, trivial⟩) (fun b61_7 => ?_)
     refine emm rfl ?_
     refine enk K23 ?_
     refine ent_seq fun _ K24 => ?_
     refine esr rfl fun _ K25 => ?_
     refine ent_o rfl (ok_len rfl Try.runUnderlying22 rfl) ?_
     refine emm rfl ?_
     refine enk K25 ?_
     refine ent_block ?_
     refine ent_loop (fun (k : Int) => (⟨[(2, aSl 1 false aInt set), (6, aEx (.pointer (some ⟨b6_3, 0, none⟩))), (12, aEx (.pointer (some ⟨b12_4, 0, none⟩))), (14, aSl 1 false aInt (ix [] m.rows i)), (15, aEx (vec (some b61_7) (((↑set.length : Int)).toNat) (((↑set.length : Int)).toNat))), (53, aSl 1 false aInts m.rows), (54, aInt (↑m.rows.length : Int)), (55, aInt i), (62, aSl 1 false aInt set), (63, aInt (↑set.length : Int)), (64, aInt k)], [oVec (some b61_7) (((↑set.length : Int)).toNat) 3 1 false aInt (mixL (pickL (ix [] m.rows i) set) (List.replicate set.length 0) k), oVec rr6 cc6 22 1 false aInts (mapT (fun row => pickL row set) m.rows i), oBox b12_4 27 [aInt (↑set.length : Int), aEx (vec rr6 ((mapT (fun row => pickL row set) m.rows i).length) cc6)], oBox b6_3 27 [aInt 0, aEx (.slice none 0 0)], oBox b4_2 27 [aInt m.cols, aSl 1 false aInts m.rows], oBox b3_1 24 [aInt f.P, aInt f.M, aSl 1 false aInt f.mod]]⟩ : St)) (fun (k : Int) => (0 ≤ k) ∧ (k ≤ set.length)) (fun (k : Int) => (set.length - k).toNat) 0 ⟨(by first | rfl | assumption | omega | (simp_all; done) | grind), (by first | rfl | assumption | omega | (simp_all; done) | grind)⟩ (ent_rep ⟨rfl, rfl, rfl, rfl, rfl, rfl, rfl, rfl, rfl, rfl, slot_av (av_int (show 0 = (0 : Int) by first | rfl | assumption | omega | (simp_all; done) | grind)), trivial⟩ (own_cons (own_vec (show mixL (pickL (ix [] m.rows i) set) (List.replicate set.length 0) (0 : Int) = List.replicate (((↑set.length : Int)).toNat) 0 by first | exact mixL_zero _ _ | (rw [mixL_zero]; congr 1; omega))) (rfl))) ?_
     rintro k ⟨q0, q1⟩
     show Ent _ ⟨_, [_, _, _, _, _, _]⟩ _
     have lm : (mixL (pickL (ix [] m.rows i) set) (List.replicate set.length 0) k).length = set.length := by rw [length_mixL _ _ (by simp)]; simp
     refine esr rfl fun _ K26 => ?_
     refine ent_o rfl (ok_lss rfl rfl) ?_
     refine enk K26 ?_
     refine ent_seq fun _ K27 => ?_
     refine ent_condD rfl (fun h65 => ?_) (fun h65 => ?_)
     ·have hp := hset _ (ix_mem 0 set q0 h65)
      refine esp K27 ?_
      refine ent_seq fun _ K28 => ?_
      refine ent_block ?_
      refine esr rfl fun _ K29 => ?_
      refine ent_o rfl (ok_index 0 sl22 rfl rfl (by omega) (by omega)) ?_
      refine ent_o rfl (ok_load ti3 rfl) ?_
      refine emm rfl ?_
      refine enk K29 ?_
      refine ent_region ?_
      refine emm rfl ?_
      refine ent_o rfl (ok_index 0 sl22 rfl rfl (by omega) (by omega)) ?_
      refine ent_o rfl (ok_load ti3 rfl) ?_
      refine ent_o rfl (ok_indexV sl22 rfl rfl (by omega) (by omega)) ?_
      refine ent_storeV (k := 0) (z := ix 0 (ix [] m.rows i) (ix 0 set k)) ti3 rfl rfl rfl (elem_one (one_int _)) (by omega) (by omega) ?_
      refine enk K28 ?_
      refine ent_region ?_
      refine ent_o rfl (ok_add rfl rfl (by omega) (by omega)) ?_
      refine emm rfl ?_
      refine ent_nil ?_
      refine ent_again (s := (k)) (k + 1) ⟨(by first | rfl | assumption | omega | (simp_all; done) | grind), (by first | rfl | assumption | omega | (simp_all; done) | grind)⟩ (by first | omega | (dsimp only; omega)) (ent_rep ⟨rfl, rfl, rfl, rfl, rfl, rfl, rfl, rfl, rfl, rfl, rfl, trivial⟩ (own_cons (own_vec (show mixL (pickL (ix [] m.rows i) set) (List.replicate set.length 0) (k + 1) = List.set (mixL (pickL (ix [] m.rows i) set) (List.replicate set.length 0) k) (k).toNat (ix 0 (ix [] m.rows i) (ix 0 set k)) by exact (mixL_set _ _ q0 (by simp; omega) (by simp) (ix_pickL q0 h65).symm).symm)) (rfl)))
     ·refine ent_exit ?_
      refine ent_k K24 ?_
      refine ent_region ?_
      refine ent_o rfl (ok_fieldAddrEx Try.runUnderlying27 rfl Try.sizeOf25 (by decide) rfl) ?_
      refine ent_o rfl (ok_loadB (k := 2) Try.isAgg25 rfl rfl rfl) ?_
      refine emm rfl ?_
      refine ent_give 0 79 rfl (cv_vec (k := 0) (off_erase rfl) (by first | rfl | assumption | (simp; done) | (simp_all; done) | omega) rfl) ?_
      refine ent_appendL (k := 0) (enc := aInts) (y := mixL (pickL (ix [] m.rows i) set) (List.replicate set.length 0) k) rfl rfl vt25 rfl rfl (by first | rfl | assumption | (simp; done) | (simp_all; done) | omega) rfl ((elem_one one_sl)) (by first | omega | (simp only [List.length_append, List.length_cons, List.length_nil]; omega) | (simp; omega)) (by first | omega | (simp only [List.length_append, List.length_cons, List.length_nil]; omega) | (simp; omega)) (by decide) (fun b81_8 c81_8 => ?_)
      refine ent_o rfl (ok_fieldAddrEx Try.runUnderlying27 rfl Try.sizeOf25 (by decide) rfl) ?_
      refine ent_storeB (k := 1) Try.sizeOf25 rfl rfl rfl (one_ex rfl) rfl ?_
      refine enk K21 ?_
      refine ent_region ?_
      refine ent_o rfl (ok_add rfl rfl (by omega) (by omega)) ?_
      refine emm rfl ?_
      refine ent_nil ?_
      refine ent_again (s := (i, rr6, cc6)) (i + 1, (some b81_8), c81_8) ⟨(by first | rfl | assumption | omega | (simp_all; done) | grind), (by first | rfl | assumption | omega | (simp_all; done) | grind)⟩ (by first | omega | (dsimp only; omega)) (ent_rep ⟨rfl, rfl, rfl, rfl, rfl, rfl, trivial⟩ (own_cons (own_vec (show mapT (fun row => pickL row set) m.rows (i + 1) = (mapT (fun row => pickL row set) m.rows i) ++ [mixL (pickL (ix [] m.rows i) set) (List.replicate set.length 0) k] by rw [mixL_all _ _ (by simp; omega) (by simp; omega)]; exact mapT_succ [] _ m.rows k0 h56)) (own_cons (own_box (av_cons rfl (av_cons (av_vec (congrArg List.length (show mapT (fun row => pickL row set) m.rows (i + 1) = (mapT (fun row => pickL row set) m.rows i) ++ [mixL (pickL (ix [] m.rows i) set) (List.replicate set.length 0) k] by rw [mixL_all _ _ (by simp; omega) (by simp; omega)]; exact mapT_succ [] _ m.rows k0 h56))) (rfl)))) (rfl))))
    ·refine ent_exit ?_
     refine ent_k K17 ?_
     refine esr rfl fun _ K30 => ?_
     refine ent_o rfl (ok_loadBS (k := 1) ti27 rfl rfl rfl) ?_
     refine ent_storeBS (k := 2) Try.sizeOf27 rfl rfl rfl (AllOne.mem ⟨(one_int _), (one_ex rfl), trivial⟩) rfl rfl ?_
     show Ent _ ⟨_, [_, _, _, _, _]⟩ _
     refine emm rfl ?_
     refine enk K30 ?_
     refine ent_ret ?_
     exact retR2 (.inr rfl) Try.results48 (resr_cell (k := 2) ti27 rfl rfl rfl (cv_agg ⟨cv_int (by first | (rw [colM_no hq0]; rfl) | (rw [colM_ok hqk]; done) | (rw [colM_ok hqk]; rfl) | (rw [colM_ok hqk, mapT_all _ _ (by omega)]; done) | (rw [colM_ok hqk, mapT_all _ _ (by omega)]; rfl)), cv_vec (k := 0) (off_x rfl) (by first | rfl | assumption | (simp; done) | (simp_all; done) | omega) (by first | (rw [colM_no hq0]; rfl) | (rw [colM_ok hqk]; done) | (rw [colM_ok hqk]; rfl) | (rw [colM_ok hqk, mapT_all _ _ (by omega)]; done) | (rw [colM_ok hqk, mapT_all _ _ (by omega)]; rfl)), trivial⟩)) (resr_tmp (res_cv rfl (cv_int (by first | exact hqk.symm | exact hqe.symm | (rw [hqe]; exact opErr_one f m)))))
 ·refine ent_o rfl (ok_call (open_no f [(⟨m.cols, m.rows⟩ : Mat)] (by rw [opErr_one]; exact hm0)) rfl) ?_
  refine emm rfl ?_
  refine ent_o rfl (ok_extract rfl rfl) ?_
  refine ent_o rfl (ok_extract rfl rfl) ?_
  refine emm rfl ?_
  refine enk K3 ?_
  refine esr rfl fun _ K31 => ?_
  refine ent_o rfl (ok_neq rfl rfl) ?_
  refine enk K31 ?_
  refine ent_condD rfl (fun h26 => ?_) (fun h26 => ?_)
  ·have hqe : colE f m set = mErr f m := colE_no hm0
   have hq0 : colE f m set ≠ 0 := by rw [hqe]; exact hm0
   refine esr rfl fun _ K32 => ?_
   refine ent_o rfl (ok_build st27 (As := [aInt 0, aEx (.slice none 0 0)]) z27 (rfl)) ?_
   refine emm rfl ?_
   refine ent_storeBS (k := 0) Try.sizeOf27 rfl rfl rfl (AllOne.mem ⟨(one_int _), (one_ex rfl), trivial⟩) rfl rfl ?_
   show Ent _ ⟨_, [_, _, _]⟩ _
   refine emm rfl ?_
   refine enk K32 ?_
   refine ent_ret ?_
   exact retR2 (.inr rfl) Try.results48 (resr_cell (k := 0) ti27 rfl rfl rfl (cv_agg ⟨cv_int (by first | (rw [colM_no hq0]; rfl) | (rw [colM_ok hqk]; done) | (rw [colM_ok hqk]; rfl) | (rw [colM_ok hqk, mapT_all _ _ (by omega)]; done) | (rw [colM_ok hqk, mapT_all _ _ (by omega)]; rfl)), cv_nil (fun _ => rfl) (by first | (rw [colM_no hq0]; rfl) | (rw [colM_ok hqk]; done) | (rw [colM_ok hqk]; rfl) | (rw [colM_ok hqk, mapT_all _ _ (by omega)]; done) | (rw [colM_ok hqk, mapT_all _ _ (by omega)]; rfl)), trivial⟩)) (resr_tmp (res_cv rfl (cv_int (by first | exact hqk.symm | exact hqe.symm | (rw [hqe]; exact opErr_one f m)))))
  ·exact absurd (Classical.not_not.1 h26) (by rw [opErr_one]; exact hm0)

theorem rColumns_ok (f : Fld) (m : Mat) (set : List Int)  : Ctr Try.prog 49 [aFld f, aMat m, aSl 1 false aInt set] (aTup [aMat (colM f m set), aInt (colE f m set)]) := by
 refine ctr_of Try.call49 Try.func49 rfl rfl ?_
 intro w O
 refine ent_lenC 0 2 rfl rfl (fun hlen0_2 => ?_)
 refine ent_lenC 1 1 rfl rfl (fun hlen1_1 => ?_)
 refine ent_len 2 rfl (fun hlen2 => ?_)
 refine esr rfl fun _ K1 => ?_
 refine ent_boxS rfl rfl (AllOne.mem ⟨(one_int _), (one_int _), one_sl, trivial⟩) (fun b3_1 => ?_)
 refine ent_boxS rfl rfl (AllOne.mem ⟨(one_int _), one_sl, trivial⟩) (fun b4_2 => ?_)
 refine ent_alloc (z := .agg #[.int .i64 0, .slice none 0 0]) [aInt 0, aEx (.slice none 0 0)] rfl zv27 rfl zc27 (fun b6_3 => ?_)
 refine emm rfl ?_
 refine enk K1 ?_
 refine esr rfl fun _ K2 => ?_
 refine ent_o rfl (ok_loadBS (k := 2) ti24 rfl rfl rfl) ?_
 refine ent_o rfl (ok_loadBS (k := 1) ti27 rfl rfl rfl) ?_
 refine ent_o rfl (ok_call (rMCheck_ok f m) rfl) ?_
 refine emm rfl ?_
 refine enk K2 ?_
 refine ent_seq fun _ K3 => ?_
 refine esr rfl fun _ K4 => ?_
 refine ent_o rfl (ok_neq rfl rfl) ?_
 refine enk K4 ?_
 refine ent_condD rfl (fun h16 => ?_) (fun h16 => ?_)
 ·have hm0 := h16
  have hqe : colE f m set = mErr f m := colE_no hm0
  have hq0 : colE f m set ≠ 0 := by rw [hqe]; exact hm0
  refine esr rfl fun _ K5 => ?_
  refine ent_o rfl (ok_build st27 (As := [aInt 0, aEx (.slice none 0 0)]) z27 (rfl)) ?_
  refine emm rfl ?_
  refine ent_storeBS (k := 0) Try.sizeOf27 rfl rfl rfl (AllOne.mem ⟨(one_int _), (one_ex rfl), trivial⟩) rfl rfl ?_
  show Ent _ ⟨_, [_, _, _]⟩ _
  refine emm rfl ?_
  refine enk K5 ?_
  refine ent_ret ?_
  exact retR2 (.inr rfl) Try.results49 (resr_cell (k := 0) ti27 rfl rfl rfl (cv_agg ⟨cv_int (by first | (rw [colM_no hq0]; rfl) | (rw [colM_ok hqk]; done) | (rw [colM_ok hqk]; rfl) | (rw [colM_ok hqk, mapT_all _ _ (by omega)]; done) | (rw [colM_ok hqk, mapT_all _ _ (by omega)]; rfl)), cv_nil (fun _ => rfl) (by first | (rw [colM_no hq0]; rfl) | (rw [colM_ok hqk]; done) | (rw [colM_ok hqk]; rfl) | (rw [colM_ok hqk, mapT_all _ _ (by omega)]; done) | (rw [colM_ok hqk, mapT_all _ _ (by omega)]; rfl)), trivial⟩)) (resr_tmp (res_cv rfl (cv_int (by first | exact hqk.symm | exact hqe.symm | (rw [hqe]; exact opErr_one f m)))))
 ·have hm0 := Classical.not_not.1 h16
  refine esp K3 ?_
  refine ent_seq fun _ K6 => ?_
  refine ent_seq fun _ K7 => ?_
  have hF := (mErr_zero.1 hm0).1
  have hme := (mErr_zero.1 hm0).2
  have hsz := mat_size hme
  have hgm := mat_good hme
  refine ent_region ?_
  refine emm rfl ?_
  refine ent_o rfl (ok_len rfl Try.runUnderlying22 rfl) ?_
  refine ent_o rfl (ok_gtr rfl rfl) ?_
  refine enk K7 ?_
  refine ent_condD rfl (fun h21 => ?_) (fun h21 => ?_)
  ·have hqe : colE f m set = 8 := colE_big hm0 (by omega)
   have hq0 : colE f m set ≠ 0 := by rw [hqe]; decide
   refine esr rfl fun _ K8 => ?_
   refine ent_o rfl (ok_build st27 (As := [aInt 0, aEx (.slice none 0 0)]) z27 (rfl)) ?_
   refine ent_storeBS (k := 0) Try.sizeOf27 rfl rfl rfl (AllOne.mem ⟨(one_int _), (one_ex rfl), trivial⟩) rfl rfl ?_
   show Ent _ ⟨_, [_, _, _]⟩ _
   refine emm rfl ?_
   refine enk K8 ?_
   refine ent_ret ?_
   exact retR2 (.inr rfl) Try.results49 (resr_cell (k := 0) ti27 rfl rfl rfl (cv_agg ⟨cv_int (by first | (rw [colM_no hq0]; rfl) | (rw [colM_ok hqk]; done) | (rw [colM_ok hqk]; rfl) | (rw [colM_ok hqk, mapT_all _ _ (by omega)]; done) | (rw [colM_ok hqk, mapT_all _ _ (by omega)]; rfl)), cv_nil (fun _ => rfl) (by first | (rw [colM_no hq0]; rfl) | (rw [colM_ok hqk]; done) | (rw [colM_ok hqk]; rfl) | (rw [colM_ok hqk, mapT_all _ _ (by omega)]; done) | (rw [colM_ok hqk, mapT_all _ _ (by omega)]; rfl)), trivial⟩)) (resr_tmp (res_cv rfl (cv_int (by first | exact hqk.symm | exact hqe.symm | (rw [hqe]; exact opErr_one f m)))))
  ·refine esp K6 ?_
   refine ent_seq fun _ K9 => ?_
   refine esk rfl ?_
   refine ent_block ?_
   refine ent_loop (fun (i : Int) => (⟨[(2, aSl 1 false aInt set), (4, aEx (.pointer (some ⟨b4_2, 0, none⟩))), (6, aEx (.pointer (some ⟨b6_3, 0, none⟩))), (9, aInt i)], [oBox b6_3 27 [aInt 0, aEx (.slice none 0 0)], oBox b4_2 27 [aInt m.cols, aSl 1 false aInts m.rows], oBox b3_1 24 [aInt f.P, aInt f.M, aSl 1 false aInt f.mod]]⟩ : St)) (fun (i : Int) => (0 ≤ i) ∧ (i ≤ set.length) ∧ (∀ j ∈ set.take i.toNat, ¬ (j < 0 ∨ m.cols ≤ j))) (fun (i : Int) => (set.length - i).toNat) 0 ⟨(by first | rfl | assumption | omega | (simp_all; done) | grind), (by first | rfl | assumption | omega | (simp_all; done) | grind), (by simp)⟩ (ent_rep ⟨rfl, rfl, rfl, slot_av (av_int (show 0 = (0 : Int) by first | rfl | assumption | omega | (simp_all; done) | grind)), trivial⟩ rfl) ?_
   rintro i ⟨h0, h1, hn⟩
   show Ent _ ⟨_, [_, _, _]⟩ _
   refine ent_seq fun _ K11 => ?_
   refine esr rfl fun _ K12 => ?_
   refine ent_o rfl (ok_len rfl Try.runUnderlying22 rfl) ?_
   refine ent_o rfl (ok_lss rfl rfl) ?_
   refine enk K12 ?_
   refine ent_condD rfl (fun h26 => ?_) (fun h26 => ?_)
   ·refine esp K11 ?_
    refine ent_seq fun _ K13 => ?_
    refine ent_block ?_
    refine ent_seq fun _ K14 => ?_
    refine ent_cut (⟨[(2, aSl 1 false aInt set), (4, aEx (.pointer (some ⟨b4_2, 0, none⟩))), (6, aEx (.pointer (some ⟨b6_3, 0, none⟩))), (9, aInt i), (42, aBool (decide (((ix 0 set i) < 0) ∨ (m.cols ≤ (ix 0 set i)))))], [oBox b6_3 27 [aInt 0, aEx (.slice none 0 0)], oBox b4_2 27 [aInt m.cols, aSl 1 false aInts m.rows], oBox b3_1 24 [aInt f.P, aInt f.M, aSl 1 false aInt f.mod]]⟩) ?_ ?_
    ·refine ent_draw 14 mixed (by kernel_rfl) (by kernel_rfl) (by kernel_rfl) ?_
     refine dw_o rfl (ok_move rfl) ?_
     refine dw_o rfl (ok_move rfl) ?_
     refine dw_o rfl (ok_index 0 sl22 rfl rfl (by omega) (by omega)) ?_
     refine dw_o rfl (ok_load ti3 rfl) ?_
     refine dw_o rfl (ok_lss rfl rfl) ?_
     refine dw_o rfl (ok_move rfl) ?_
     refine dw_guardDf rfl rfl rfl rfl (fun hg34 => ?_) (fun hg34 => ?_)
     ·refine dw_o rfl (ok_move rfl) ?_
      refine dw_guardT rfl rfl rfl rfl (decide_eq_false hg34) ?_
      refine dw_o rfl (ok_move rfl) ?_
      refine dw_guardT rfl rfl rfl rfl (decide_eq_false hg34) ?_
      refine dw_o rfl (ok_index 0 sl22 rfl rfl (by omega) (by omega)) ?_
      refine dw_guardT rfl rfl rfl rfl (decide_eq_false hg34) ?_
      refine dw_o rfl (ok_load ti3 rfl) ?_
      refine dw_guardT rfl rfl rfl rfl (decide_eq_false hg34) ?_
      refine dw_o rfl (ok_fieldAddrEx Try.runUnderlying27 rfl Try.sizeOf3 (by decide) rfl) ?_
      refine dw_guardT rfl rfl rfl rfl (decide_eq_false hg34) ?_
      refine dw_o rfl (ok_loadB (k := 1) Try.isAgg3 rfl rfl rfl) ?_
      refine dw_guardT rfl rfl rfl rfl (decide_eq_false hg34) ?_
      refine dw_o rfl (ok_geq rfl rfl) ?_
      refine dw_o rfl (ok_pickF rfl (decide_eq_false hg34) rfl) ?_
      refine dw_nil ?_
      refine ent_nil ?_
      exact ent_rep ⟨rfl, rfl, rfl, rfl, slot_bool (dq_Q ((or_iff_right hg34).trans Iff.rfl)), trivial⟩ rfl
     ·refine dw_guardF rfl rfl rfl rfl (decide_eq_true hg34) ?_
      refine dw_guardF rfl rfl rfl rfl (decide_eq_true hg34) ?_
      refine dw_guardF rfl rfl rfl rfl (decide_eq_true hg34) ?_
      refine dw_guardF rfl rfl rfl rfl (decide_eq_true hg34) ?_
      refine dw_guardF rfl rfl rfl rfl (decide_eq_true hg34) ?_
      refine dw_guardF rfl rfl rfl rfl (decide_eq_true hg34) ?_
      refine dw_o rfl (ok_pickT rfl (decide_eq_true hg34) rfl) ?_
      refine dw_nil ?_
      refine ent_nil ?_
      exact ent_rep ⟨rfl, rfl, rfl, rfl, slot_bool (dq_T rfl (Or.inl hg34)), trivial⟩ rfl
    refine ent_k K14 ?_
    refine ent_condD rfl (fun h42 => ?_) (fun h42 => ?_)
    ·have hqe : colE f m set = 6 := colE_out hm0 (by omega) h0 h26 h42
     have hq0 : colE f m set ≠ 0 := by rw [hqe]; decide
     refine esr rfl fun _ K15 => ?_
     refine ent_o rfl (ok_build st27 (As := [aInt 0, aEx (.slice none 0 0)]) z27 (rfl)) ?_
     refine ent_storeBS (k := 0) Try.sizeOf27 rfl rfl rfl (AllOne.mem ⟨(one_int _), (one_ex rfl), trivial⟩) rfl rfl ?_
     show Ent _ ⟨_, [_, _, _]⟩ _
     refine emm rfl ?_
     refine enk K15 ?_
     refine ent_ret ?_
     exact retR2 (.inr rfl) Try.results49 (resr_cell (k := 0) ti27 rfl rfl rfl (cv_agg ⟨cv_int (by first | (rw [colM_no hq0]; rfl) | (rw [colM_ok hqk]; done) | (rw [colM_ok hqk]; rfl) | (rw [colM_ok hqk, mapT_all _ _ (by omega)]; done) | (rw [colM_ok hqk, mapT_all _ _ (by omega)]; rfl)), cv_nil (fun _ => rfl) (by first | (rw [colM_no hq0]; rfl) | (rw [colM_ok hqk]; done) | (rw [colM_ok hqk]; rfl) | (rw [colM_ok hqk, mapT_all _ _ (by omega)]; done) | (rw [colM_ok hqk, mapT_all _ _ (by omega)]; rfl)), trivial⟩)) (resr_tmp (res_cv rfl (cv_int (by first | exact hqk.symm | exact hqe.symm | (rw [hqe]; exact opErr_one f m)))))
    ·refine esp K13 ?_
     refine ent_region ?_
     refine emm rfl ?_
     refine ent_o rfl (ok_add rfl rfl (by omega) (by omega)) ?_
     refine emm rfl ?_
     refine ent_nil ?_
     refine ent_again (s := (i)) (i + 1) ⟨(by first | rfl | assumption | omega | (simp_all; done) | grind), (by first | rfl | assumption | omega | (simp_all; done) | grind), (not_take_succ 0 h0 h26 hn h42)⟩ (by first | omega | (dsimp only; omega)) (ent_rep ⟨rfl, rfl, rfl, rfl, trivial⟩ rfl)
   ·have hset : ∀ j ∈ set, ¬ (j < 0 ∨ m.cols ≤ j) := take_all (by omega) hn
    have hqk : colE f m set = 0 := colE_ok hm0 (by omega) hset
    refine ent_exit ?_
    refine ent_k K9 ?_
    refine esr rfl fun _ K16 => ?_
    refine ent_o rfl (ok_len rfl Try.runUnderlying22 rfl) ?_
    refine ent_o rfl (ok_build st27 (As := [aInt 0, aEx (.slice none 0 0)]) z27 (⟨0, 1, rfl, .inl ⟨rfl, _, rfl, (one_int _), rfl, rfl⟩⟩)) ?_
    refine ent_alloc (z := .agg #[.int .i64 0, .slice none 0 0]) [aInt 0, aEx (.slice none 0 0)] rfl zv27 rfl zc27 (fun b10_4 => ?_)
    refine ent_storeBS (k := 0) Try.sizeOf27 rfl rfl rfl (AllOne.mem ⟨(one_int _), (one_ex rfl), trivial⟩) rfl rfl ?_
    show Ent _ ⟨_, [_, _, _, _]⟩ _
    refine enk K16 ?_
    refine ent_seq fun _ K17 => ?_
    refine esk rfl ?_
    refine ent_block ?_
    refine ent_open 22 1 false aInts (fun _ => rfl) ?_
    refine ent_loop (fun (ss : Int × Option Nat × Nat) => match ss with | (i, rr6, cc6) => (⟨[(2, aSl 1 false aInt set), (4, aEx (.pointer (some ⟨b4_2, 0, none⟩))), (6, aEx (.pointer (some ⟨b6_3, 0, none⟩))), (10, aEx (.pointer (some ⟨b10_4, 0, none⟩))), (11, aInt i)], [oVec rr6 cc6 22 1 false aInts (mapT (fun row => pickL row set) m.rows i), oBox b10_4 27 [aInt (↑set.length : Int), aEx (vec rr6 ((mapT (fun row => pickL row set) m.rows i).length) cc6)], oBox b6_3 27 [aInt 0, aEx (.slice none 0 0)], oBox b4_2 27 [aInt m.cols, aSl 1 false aInts m.rows], oBox b3_1 24 [aInt f.P, aInt f.M, aSl 1 false aInt f.mod]]⟩ : St)) (fun (ss : Int × Option Nat × Nat) => match ss with | (i, rr6, cc6) => (0 ≤ i) ∧ (i ≤ m.rows.length)) (fun (ss : Int × Option Nat × Nat) => match ss with | (i, rr6, cc6) => (m.rows.length - i).toNat) (0, none, 0) ⟨(by first | rfl | assumption | omega | (simp_all; done) | grind), (by first | rfl | assumption | omega | (simp_all; done) | grind)⟩ (ent_rep ⟨rfl, rfl, rfl, rfl, slot_av (av_int (show 0 = (0 : Int) by first | rfl | assumption | omega | (simp_all; done) | grind)), trivial⟩ (own_cons (own_vec (show mapT (fun row => pickL row set) m.rows (0 : Int) = [] by first | rfl | simp [mapT_zero])) (own_cons (own_box (av_cons rfl (av_cons ((by first | rfl | simp [mapT_zero])) (rfl)))) (rfl)))) ?_
    rintro ⟨i, rr6, cc6⟩ ⟨k0, k1⟩
    show Ent _ ⟨_, [_, _, _, _, _]⟩ _
    have lf := length_mapT (fun row => pickL row set) m.rows (i := i) (by omega)
    refine ent_seq fun _ K19 => ?_
    refine esr rfl fun _ K20 => ?_
    refine ent_o rfl (ok_fieldAddrEx Try.runUnderlying27 rfl Try.sizeOf25 (by decide) rfl) ?_
    refine ent_o rfl (ok_loadB (k := 3) Try.isAgg25 rfl rfl rfl) ?_
    refine ent_o rfl (ok_len rfl Try.runUnderlying25 rfl) ?_
    refine ent_o rfl (ok_lss rfl rfl) ?_
    refine enk K20 ?_
    refine ent_condD rfl (fun h51 => ?_) (fun h51 => ?_)
    ·have hri := row_len hme k0 h51
     refine esp K19 ?_
     refine ent_seq fun _ K21 => ?_
     refine ent_block ?_
     refine ent_draw 10 mixed (by kernel_rfl) (by kernel_rfl) (by kernel_rfl) ?_
     refine dw_o rfl (ok_fieldAddrEx Try.runUnderlying27 rfl Try.sizeOf25 (by decide) rfl) ?_
     refine dw_o rfl (ok_loadB (k := 1) Try.isAgg25 rfl rfl rfl) ?_
     refine dw_o rfl (ok_fieldAddrEx Try.runUnderlying27 rfl Try.sizeOf25 (by decide) rfl) ?_
     refine dw_o rfl (ok_loadB (k := 3) Try.isAgg25 rfl rfl rfl) ?_
     refine dw_o rfl (ok_move rfl) ?_
     refine dw_o rfl (ok_index [] sl25 rfl rfl (by omega) (by omega)) ?_
     refine dw_o rfl (ok_load ti22 rfl) ?_
     refine dw_o rfl (ok_move rfl) ?_
     refine dw_o rfl (ok_call (CtrF.ctr (CtrF.sl (rPick_ok (ix [] m.rows i) set (fun p hp => by have := hset p hp; omega) (by first | rfl | assumption | omega | (simp_all; done) | grind)))) rfl) ?_
     refine dw_o rfl (ok_build1 (enc := aInts) (y := pickL (ix [] m.rows i) set) vt25 rfl (elem_one one_sl) (by decide)) ?_
     refine dw_nil ?_
     refine ent_appendS (k := 0) rfl vt25 rfl rfl (by first | rfl | assumption | (simp; done) | (simp_all; done) | omega) rfl (cv_id sub_refl) (by first | omega | (simp only [List.length_append, List.length_cons, List.length_nil]; omega) | (simp; omega)) (by first | omega | (simp only [List.length_append, List.length_cons, List.length_nil]; omega) | (simp; omega)) (fun r64_6 cr64_6 => ?_)
     refine ent_o rfl (ok_fieldAddrEx Try.runUnderlying27 rfl Try.sizeOf25 (by decide) rfl) ?_
     refine ent_storeB (k := 1) Try.sizeOf25 rfl rfl rfl (one_ex rfl) rfl ?_
     refine enk K21 ?_
     refine ent_region ?_
     refine emm rfl ?_
     refine ent_o rfl (ok_add rfl rfl (by omega) (by omega)) ?_
     refine emm rfl ?_
     refine ent_nil ?_
     refine ent_again (s := (i, rr6, cc6)) (i + 1, r64_6, cr64_6) ⟨(by first | rfl | assumption | omega | (simp_all; done) | grind), (by first | rfl | assumption | omega | (simp_all; done) | grind)⟩ (by first | omega | (dsimp only; omega)) (ent_rep ⟨rfl, rfl, rfl, rfl, rfl, trivial⟩ (own_cons (own_vec (show mapT (fun row => pickL row set) m.rows (i + 1) = (mapT (fun row => pickL row set) m.rows i) ++ [pickL (ix [] m.rows i) set] by exact mapT_succ [] _ m.rows k0 h51)) (own_cons (own_box (av_cons rfl (av_cons (av_vec (congrArg List.length (show mapT (fun row => pickL row set) m.rows (i + 1) = (mapT (fun row => pickL row set) m.rows i) ++ [pickL (ix [] m.rows i) set] by exact mapT_succ [] _ m.rows k0 h51))) (rfl)))) (rfl))))
    ·refine ent_exit ?_
     refine ent_k K17 ?_
     refine esr rfl fun _ K22 => ?_
     refine ent_o rfl (ok_loadBS (k := 1) ti27 rfl rfl rfl) ?_
     refine ent_storeBS (k := 2) Try.sizeOf27 rfl rfl rfl (AllOne.mem ⟨(one_int _), (one_ex rfl), trivial⟩) rfl rfl ?_
     show Ent _ ⟨_, [_, _, _, _, _]⟩ _
     refine emm rfl ?_
     refine enk K22 ?_
     refine ent_ret ?_
     exact retR2 (.inr rfl) Try.results49 (resr_cell (k := 2) ti27 rfl rfl rfl (cv_agg ⟨cv_int (by first | (rw [colM_no hq0]; rfl) | (rw [colM_ok hqk]; done) | (rw [colM_ok hqk]; rfl) | (rw [colM_ok hqk, mapT_all _ _ (by omega)]; done) | (rw [colM_ok hqk, mapT_all _ _ (by omega)]; rfl)), cv_vec (k := 0) (off_x rfl) (by first | rfl | assumption | (simp; done) | (simp_all; done) | omega) (by first | (rw [colM_no hq0]; rfl) | (rw [colM_ok hqk]; done) | (rw [colM_ok hqk]; rfl) | (rw [colM_ok hqk, mapT_all _ _ (by omega)]; done) | (rw [colM_ok hqk, mapT_all _ _ (by omega)]; rfl)), trivial⟩)) (resr_tmp (res_cv rfl (cv_int (by first | exact hqk.symm | exact hqe.symm | (rw [hqe]; exact opErr_one f m)))))

theorem rUnit_ok (n : Int) (hn0 : 0 ≤ n) (hn1 : n ≤ 1000) : Ctr Try.prog 41 [aInt n] (aSl 1 false aInts (uni n)) := by
 refine ctr_of Try.call41 Try.func41 rfl rfl ?_
 intro w O
 refine esk rfl ?_
 refine esk rfl ?_
 refine ent_seq fun _ K3 => ?_
 refine esk rfl ?_
 refine ent_block ?_
 refine ent_open 22 1 false aInts (fun _ => rfl) ?_
 refine ent_loop (fun (ss : Int × Option Nat × Nat) => match ss with | (i, rr2, cc2) => (⟨[(0, aInt n), (3, aEx (vec rr2 (((uni n).take i.toNat).length) cc2)), (4, aInt i)], [oVec rr2 cc2 22 1 false aInts ((uni n).take i.toNat)]⟩ : St)) (fun (ss : Int × Option Nat × Nat) => match ss with | (i, rr2, cc2) => (0 ≤ i) ∧ (i ≤ n)) (fun (ss : Int × Option Nat × Nat) => match ss with | (i, rr2, cc2) => (n - i).toNat) (0, none, 0) ⟨(by first | rfl | assumption | omega | (simp_all; done) | grind), (by first | rfl | assumption | omega | (simp_all; done) | grind)⟩ (ent_rep ⟨rfl, slot_av ((show aEx (vec none ([] : List _).length 0) = aEx (vec none (((uni n).take (0 : Int).toNat).length) 0) from av_vec (congrArg List.length (show (uni n).take (0 : Int).toNat = [] by rfl).symm))), slot_av (av_int (show 0 = (0 : Int) by first | rfl | assumption | omega | (simp_all; done) | grind)), trivial⟩ (own_cons (own_vec (show (uni n).take (0 : Int).toNat = [] by rfl)) (rfl))) ?_
 rintro ⟨i, rr2, cc2⟩ ⟨h0, h1⟩
 show Ent _ ⟨_, [_]⟩ _
 have lu : ((uni n).take i.toNat).length = i.toNat := by rw [List.length_take, length_uni]; omega
 refine ent_seq fun _ K5 => ?_
 refine esr rfl fun _ K6 => ?_
 refine ent_o rfl (ok_lss rfl rfl) ?_
 refine enk K6 ?_
 refine ent_condD rfl (fun h8 => ?_) (fun h8 => ?_)
 ·refine esp K5 ?_
  refine ent_seq fun _ K7 => ?_
  refine ent_block ?_
  refine esr rfl fun _ K8 => ?_
  refine ent_make aInt 0 rfl vt22 rfl rfl (by first | omega | (simp; omega)) (by first | omega | (simp; omega)) (by first | omega | (simp; omega)) (fun _ _ => rfl) (AllV.mem ⟨rfl, trivial⟩) (fun b12_3 => ?_)
  refine emm rfl ?_
  refine enk K8 ?_
  refine esr rfl fun _ K9 => ?_
  refine ent_o rfl (ok_indexV sl22 rfl rfl (by first | omega | (simp; omega)) (by first | omega | (simp; omega))) ?_
  refine ent_storeV (k := 0) (z := 1) ti3 rfl rfl rfl (elem_one (one_int _)) (by first | omega | (simp; omega)) (by first | omega | (simp; omega)) ?_
  refine enk K9 ?_
  refine ent_region ?_
  refine emm rfl ?_
  refine ent_give 0 17 rfl (cv_vec (k := 0) (off_erase rfl) (by first | rfl | assumption | (simp; done) | (simp_all; done) | omega) rfl) ?_
  refine ent_appendL (k := 0) (enc := aInts) (y := List.set (List.replicate ((n).toNat) 0) (i).toNat 1) rfl rfl vt25 rfl rfl (by first | rfl | assumption | (simp; done) | (simp_all; done) | omega) rfl ((elem_one one_sl)) (by first | omega | (simp only [List.length_append, List.length_cons, List.length_nil]; omega) | (simp; omega)) (by first | omega | (simp only [List.length_append, List.length_cons, List.length_nil]; omega) | (simp; omega)) (by decide) (fun b19_4 c19_4 => ?_)
  refine emm rfl ?_
  refine enk K7 ?_
  refine ent_region ?_
  refine emm rfl ?_
  refine ent_o rfl (ok_add rfl rfl (by first | omega | (simp; omega)) (by first | omega | (simp; omega))) ?_
  refine emm rfl ?_
  refine ent_nil ?_
  refine ent_again (s := (i, rr2, cc2)) (i + 1, (some b19_4), c19_4) ⟨(by first | rfl | assumption | omega | (simp_all; done) | grind), (by first | rfl | assumption | omega | (simp_all; done) | grind)⟩ (by first | omega | (dsimp only; omega)) (ent_rep ⟨rfl, slot_av (av_vec (congrArg List.length (show (uni n).take (i + 1).toNat = ((uni n).take i.toNat) ++ [List.set (List.replicate ((n).toNat) 0) (i).toNat 1] by rw [take_succ_ix [] (uni n) h0 (by rw [length_uni]; omega), uni_row h0 h8]).symm)), rfl, trivial⟩ (own_cons (own_vec (show (uni n).take (i + 1).toNat = ((uni n).take i.toNat) ++ [List.set (List.replicate ((n).toNat) 0) (i).toNat 1] by rw [take_succ_ix [] (uni n) h0 (by rw [length_uni]; omega), uni_row h0 h8])) (rfl)))
 ·refine ent_exit ?_
  refine ent_k K3 ?_
  refine esk rfl ?_
  refine ent_ret ?_
  exact retR1 (.inr rfl) Try.results41 (resr_tmp (res_cv rfl (cv_vec (k := 0) (off_x rfl) (by first | rfl | assumption | (simp; done) | (simp_all; done) | omega) (by rw [List.take_of_length_le (by rw [length_uni]; omega)]))))

theorem mIdentity_ok (n : Int)  : Ctr Try.prog 52 [aInt n] (aTup [aMat (ideM n), aInt (ideE n)]) := by
 refine ctr_of Try.call52 Try.func52 rfl rfl ?_
 intro w O
 refine esr rfl fun _ K1 => ?_
 refine ent_alloc (z := .agg #[.int .i64 0, .slice none 0 0]) [aInt 0, aEx (.slice none 0 0)] rfl zv27 rfl zc27 (fun b2_1 => ?_)
 refine emm rfl ?_
 refine enk K1 ?_
 refine ent_seq fun _ K2 => ?_
 refine ent_seq fun _ K3 => ?_
 refine ent_cut (⟨[(0, aInt n), (2, aEx (.pointer (some ⟨b2_1, 0, none⟩))), (9, aBool (decide ((n < 0) ∨ (256 < n))))], [oBox b2_1 27 [aInt 0, aEx (.slice none 0 0)]]⟩) ?_ ?_
 ·refine ent_region ?_
  refine emm rfl ?_
  refine ent_o rfl (ok_lss rfl rfl) ?_
  refine emm rfl ?_
  refine ent_guardXDf rfl rfl rfl rfl (fun hg6 => ?_) (fun hg6 => ?_)
  ·refine emm rfl ?_
   refine ent_guardXT rfl rfl rfl rfl (decide_eq_false hg6) ?_
   refine ent_o rfl (ok_gtr rfl rfl) ?_
   refine ent_o rfl (ok_pickF rfl (decide_eq_false hg6) rfl) ?_
   refine ent_nil ?_
   exact ent_rep ⟨rfl, rfl, slot_bool (dq_Q ((or_iff_right hg6).trans Iff.rfl)), trivial⟩ rfl
  ·refine ent_guardXF rfl rfl rfl rfl (decide_eq_true hg6) ?_
   refine ent_o rfl (ok_pickT rfl (decide_eq_true hg6) rfl) ?_
   refine ent_nil ?_
   exact ent_rep ⟨rfl, rfl, slot_bool (dq_T rfl (Or.inl hg6)), trivial⟩ rfl
 refine ent_k K3 ?_
 refine ent_condD rfl (fun h9 => ?_) (fun h9 => ?_)
 ·refine esr rfl fun _ K4 => ?_
  refine ent_o rfl (ok_build st27 (As := [aInt 0, aEx (.slice none 0 0)]) z27 (rfl)) ?_
  refine ent_storeBS (k := 0) Try.sizeOf27 rfl rfl rfl (AllOne.mem ⟨(one_int _), (one_ex rfl), trivial⟩) rfl rfl ?_
  show Ent _ ⟨_, [_]⟩ _
  refine emm rfl ?_
  refine enk K4 ?_
  refine ent_ret ?_
  exact retR2 (.inr rfl) Try.results52 (resr_cell (k := 0) ti27 rfl rfl rfl (cv_agg ⟨cv_int (by first | (rw [ideM_bad h9]; rfl) | (rw [ideM_ok h9]; done) | (rw [ideM_ok h9]; rfl)), cv_nil (fun _ => rfl) (by first | (rw [ideM_bad h9]; rfl) | (rw [ideM_ok h9]; done) | (rw [ideM_ok h9]; rfl)), trivial⟩)) (resr_tmp (res_cv rfl (cv_int (by first | exact (ideE_bad h9).symm | exact (ideE_ok h9).symm))))
 ·have hn0 : 0 ≤ n := by omega
  have hn1 : n ≤ 256 := by omega
  refine esp K2 ?_
  refine esr rfl fun _ K5 => ?_
  refine ent_callW (rs := [oBox b2_1 27 [aInt 0, aEx (.slice none 0 0)]]) [] rfl (unit_ok n (by first | rfl | assumption | omega | (simp_all; done) | grind) (by first | rfl | assumption | omega | (simp_all; done) | grind)) rfl rfl (.inl rfl) ⟨arg_a rfl (cv_id (sub_lent _)), trivial⟩ ?_
  rintro ⟨r_2, c_2, Hs_2⟩ h13_2
  show Ent _ ⟨_ :: _, [_, _, _]⟩ _
  have hun : Hs_2.length = n.toNat := h13_2
  have hul := length_uni n
  refine ent_o rfl (ok_build st27 (As := [aInt 0, aEx (.slice none 0 0)]) z27 (⟨0, 1, rfl, .inl ⟨rfl, _, rfl, (one_int _), rfl, ⟨1, 1, rfl, .inl ⟨rfl, _, rfl, (one_ex rfl), rfl, rfl⟩⟩⟩⟩)) ?_
  refine ent_storeBS (k := 2) Try.sizeOf27 rfl rfl rfl (AllOne.mem ⟨(one_int _), (one_ex rfl), trivial⟩) rfl rfl ?_
  show Ent _ ⟨_, [_, _, _]⟩ _
  refine emm rfl ?_
  refine enk K5 ?_
  refine ent_ret ?_
  refine ent_frzRows 0 1 rfl rfl (by decide) ?_
  exact retR2 (.inr rfl) Try.results52 (resr_cell (k := 1) ti27 rfl rfl rfl (cv_agg ⟨cv_int (by first | (rw [ideM_bad h9]; rfl) | (rw [ideM_ok h9]; done) | (rw [ideM_ok h9]; rfl)), cv_vec (k := 0) (off_x rfl) (by first | rfl | assumption | (simp; done) | (simp_all; done) | omega) (by first | (rw [ideM_bad h9]; rfl) | (rw [ideM_ok h9]; done) | (rw [ideM_ok h9]; rfl)), trivial⟩)) (resr_tmp (res_cv rfl (cv_int (by first | exact (ideE_bad h9).symm | exact (ideE_ok h9).symm))))

theorem rIdentity_ok (n : Int)  : Ctr Try.prog 53 [aInt n] (aTup [aMat (ideM n), aInt (ideE n)]) := by
 refine ctr_of Try.call53 Try.func53 rfl rfl ?_
 intro w O
 refine esr rfl fun _ K1 => ?_
 refine ent_alloc (z := .agg #[.int .i64 0, .slice none 0 0]) [aInt 0, aEx (.slice none 0 0)] rfl zv27 rfl zc27 (fun b2_1 => ?_)
 refine emm rfl ?_
 refine enk K1 ?_
 refine ent_seq fun _ K2 => ?_
 refine ent_seq fun _ K3 => ?_
 refine ent_cut (⟨[(0, aInt n), (2, aEx (.pointer (some ⟨b2_1, 0, none⟩))), (9, aBool (decide ((n < 0) ∨ (256 < n))))], [oBox b2_1 27 [aInt 0, aEx (.slice none 0 0)]]⟩) ?_ ?_
 ·refine ent_region ?_
  refine emm rfl ?_
  refine ent_o rfl (ok_lss rfl rfl) ?_
  refine emm rfl ?_
  refine ent_guardXDf rfl rfl rfl rfl (fun hg6 => ?_) (fun hg6 => ?_)
  ·refine emm rfl ?_
   refine ent_guardXT rfl rfl rfl rfl (decide_eq_false hg6) ?_
   refine ent_o rfl (ok_gtr rfl rfl) ?_
   refine ent_o rfl (ok_pickF rfl (decide_eq_false hg6) rfl) ?_
   refine ent_nil ?_
   exact ent_rep ⟨rfl, rfl, slot_bool (dq_Q ((or_iff_right hg6).trans Iff.rfl)), trivial⟩ rfl
  ·refine ent_guardXF rfl rfl rfl rfl (decide_eq_true hg6) ?_
   refine ent_o rfl (ok_pickT rfl (decide_eq_true hg6) rfl) ?_
   refine ent_nil ?_
   exact ent_rep ⟨rfl, rfl, slot_bool (dq_T rfl (Or.inl hg6)), trivial⟩ rfl
 refine ent_k K3 ?_
 refine ent_condD rfl (fun h9 => ?_) (fun h9 => ?_)
 ·refine esr rfl fun _ K4 => ?_
  refine ent_o rfl (ok_build st27 (As := [aInt 0, aEx (.slice none 0 0)]) z27 (rfl)) ?_
  refine ent_storeBS (k := 0) Try.sizeOf27 rfl rfl rfl (AllOne.mem ⟨(one_int _), (one_ex rfl), trivial⟩) rfl rfl ?_
  show Ent _ ⟨_, [_]⟩ _
  refine emm rfl ?_
  refine enk K4 ?_
  refine ent_ret ?_
  exact retR2 (.inr rfl) Try.results53 (resr_cell (k := 0) ti27 rfl rfl rfl (cv_agg ⟨cv_int (by first | (rw [ideM_bad h9]; rfl) | (rw [ideM_ok h9]; done) | (rw [ideM_ok h9]; rfl)), cv_nil (fun _ => rfl) (by first | (rw [ideM_bad h9]; rfl) | (rw [ideM_ok h9]; done) | (rw [ideM_ok h9]; rfl)), trivial⟩)) (resr_tmp (res_cv rfl (cv_int (by first | exact (ideE_bad h9).symm | exact (ideE_ok h9).symm))))
 ·have hn0 : 0 ≤ n := by omega
  have hn1 : n ≤ 256 := by omega
  refine esp K2 ?_
  refine esr rfl fun _ K5 => ?_
  refine ent_o rfl (ok_call (rUnit_ok n (by first | rfl | assumption | omega | (simp_all; done) | grind) (by first | rfl | assumption | omega | (simp_all; done) | grind)) rfl) ?_
  refine ent_o rfl (ok_build st27 (As := [aInt 0, aEx (.slice none 0 0)]) z27 (⟨0, 1, rfl, .inl ⟨rfl, _, rfl, (one_int _), rfl, ⟨1, 1, rfl, .inl ⟨rfl, _, rfl, one_sl, rfl, rfl⟩⟩⟩⟩)) ?_
  refine ent_storeBS (k := 0) Try.sizeOf27 rfl rfl rfl (AllOne.mem ⟨(one_int _), one_sl, trivial⟩) rfl rfl ?_
  show Ent _ ⟨_, [_]⟩ _
  refine emm rfl ?_
  refine enk K5 ?_
  refine ent_ret ?_
  exact retR2 (.inr rfl) Try.results53 (resr_cell (k := 0) ti27 rfl rfl rfl (cv_agg ⟨cv_int (by first | (rw [ideM_bad h9]; rfl) | (rw [ideM_ok h9]; done) | (rw [ideM_ok h9]; rfl)), cv_sl sub_x (by first | (rw [ideM_bad h9]; rfl) | (rw [ideM_ok h9]; done) | (rw [ideM_ok h9]; rfl)), trivial⟩)) (resr_tmp (res_cv rfl (cv_int (by first | exact (ideE_bad h9).symm | exact (ideE_ok h9).symm))))
end Go.Proofs.Ytamhdlkfhhpdpaa

