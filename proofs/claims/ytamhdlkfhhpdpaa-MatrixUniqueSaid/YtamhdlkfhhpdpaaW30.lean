/-
  Facts for the law MatrixUnique.
-/
import Derived.Test.YtamhdlkfhhpdpaaProg
import Derived.Test.YtamhdlkfhhpdpaaWTab
import Derived.Test.YtamhdlkfhhpdpaaPlainUq
import Derived.Test.YtamhdlkfhhpdpaaCzLib
import Derived.Test.YtamhdlkfhhpdpaaW1
import Derived.Test.YtamhdlkfhhpdpaaW4
import Derived.Test.YtamhdlkfhhpdpaaW5
import Derived.Test.YtamhdlkfhhpdpaaW6
import Derived.Test.YtamhdlkfhhpdpaaW9
import Derived.Test.YtamhdlkfhhpdpaaW10
import Derived.Test.YtamhdlkfhhpdpaaW11
import Derived.Test.YtamhdlkfhhpdpaaW12
import Derived.Test.YtamhdlkfhhpdpaaW13
import Derived.Test.YtamhdlkfhhpdpaaW14
import Derived.Test.YtamhdlkfhhpdpaaW15
import Derived.Test.YtamhdlkfhhpdpaaW16
import Derived.Test.YtamhdlkfhhpdpaaW17
import Derived.Test.YtamhdlkfhhpdpaaW18
import Derived.Test.YtamhdlkfhhpdpaaW19
import Derived.Test.YtamhdlkfhhpdpaaW20
import Derived.Test.YtamhdlkfhhpdpaaW21
import Derived.Test.YtamhdlkfhhpdpaaW29
import Derived.Test.YtamhdlkfhhpdpaaW23
open Go Go.Cw
namespace Go.Proofs.Ytamhdlkfhhpdpaa
set_option maxRecDepth 100000
set_option linter.unusedVariables false
set_option linter.unusedSimpArgs false
theorem MatrixUnique_walk (f : Fld) (m : Mat) (p : Int × Int × Int) (hp : (0 ≤ p.1 ∧ p.1 ≤ 255) ∧ (0 ≤ p.2.1 ∧ p.2.1 ≤ 255) ∧ (0 ≤ p.2.2 ∧ p.2.2 ≤ 255)) : Ctr Try.prog 5 [aFld f, aMat m, aAgg [aU8 p.1, aU8 p.2.1, aU8 p.2.2]] (aBool true) := by
 refine ctr_of Try.call5 Try.func5 rfl rfl ?_
 intro w O
 refine ent_lenC 0 2 rfl rfl (fun hlen0_2 => ?_)
 refine ent_lenC 1 1 rfl rfl (fun hlen1_1 => ?_)
 refine esr rfl fun _ K1 => ?_
 refine ent_boxS rfl rfl (AllOne.mem ⟨(one_int _), (one_int _), one_sl, trivial⟩) (fun b3_1 => ?_)
 refine ent_boxS rfl rfl (AllOne.mem ⟨(one_int _), one_sl, trivial⟩) (fun b4_2 => ?_)
 refine ent_boxS rfl rfl (AllOne.mem ⟨(one_ex rfl), (one_ex rfl), (one_ex rfl), trivial⟩) (fun b5_3 => ?_)
 refine emm rfl ?_
 refine enk K1 ?_
 refine ent_seq fun _ K2 => ?_
 refine esr rfl fun _ K3 => ?_
 refine ent_o rfl (ok_call awake_ok rfl) ?_
 refine ent_o rfl (ok_not rfl) ?_
 refine emm rfl ?_
 refine ent_guardXT rfl rfl rfl rfl rfl ?_
 refine ent_o rfl (ok_loadBS (k := 1) ti27 rfl rfl rfl) ?_
 refine ent_guardXT rfl rfl rfl rfl rfl ?_
 refine ent_o rfl (ok_call (rFew_ok m 200 (by first | rfl | assumption | omega | (simp_all; done) | grind) (by first | rfl | assumption | omega | (simp_all; done) | grind)) rfl) ?_
 refine ent_guardXT rfl rfl rfl rfl rfl ?_
 refine ent_o rfl (ok_notD rfl) ?_
 refine ent_o rfl (ok_pickF rfl rfl rfl) ?_
 refine enk K3 ?_
 refine ent_condD rfl (fun h30 => ?_) (fun h30 => ?_)
 ·refine esr rfl fun _ K4 => ?_
  refine ent_o rfl (ok_call awake_ok rfl) ?_
  refine emm rfl ?_
  refine enk K4 ?_
  refine ent_ret ?_
  exact retR1 (.inr rfl) Try.results5 (resr_tmp (res_cv rfl (cv_bool (by first | rfl | simp [hU.e1, hU.e2, hU.e3, hU.c1, hU.c2, hU.c3]))))
 ·refine esp K2 ?_
  refine esr rfl fun _ K5 => ?_
  refine ent_o rfl (ok_loadBS (k := 2) ti24 rfl rfl rfl) ?_
  refine ent_o rfl (ok_loadBS (k := 1) ti27 rfl rfl rfl) ?_
  refine ent_o rfl (ok_call (CtrF.ctr (mCanonicalF_ok f m)) rfl) ?_
  refine emm rfl ?_
  refine ent_o rfl (ok_extract rfl rfl) ?_
  refine ent_o rfl (ok_extract rfl rfl) ?_
  refine ent_o rfl (ok_extract rfl rfl) ?_
  refine ent_alloc (z := .agg #[.int .i64 0, .slice none 0 0]) [aInt 0, aEx (.slice none 0 0)] rfl zv27 rfl zc27 (fun b7_4 => ?_)
  refine ent_storeBS (k := 0) Try.sizeOf27 rfl rfl rfl (AllOne.mem ⟨(one_int _), one_sl, trivial⟩) rfl rfl ?_
  show Ent _ ⟨_, [_, _, _, _]⟩ _
  refine emm rfl ?_
  refine enk K5 ?_
  refine ent_seq fun _ K6 => ?_
  refine ent_seq fun _ K7 => ?_
  refine ent_cut (⟨[(3, aEx (.pointer (some ⟨b3_1, 0, none⟩))), (4, aEx (.pointer (some ⟨b4_2, 0, none⟩))), (5, aEx (.pointer (some ⟨b5_3, 0, none⟩))), (7, aEx (.pointer (some ⟨b7_4, 0, none⟩))), (9, aInt (mErr f m)), (48, aBool (decide (((mErr f m) ≠ 0) ∨ ((↑m.rows.length : Int) < 2))))], [oBox b7_4 27 [aInt ((canM f m).cols), aSl 1 false aInts ((canM f m).rows)], oBox b5_3 41 [aU8 p.1, aU8 p.2.1, aU8 p.2.2], oBox b4_2 27 [aInt m.cols, aSl 1 false aInts m.rows], oBox b3_1 24 [aInt f.P, aInt f.M, aSl 1 false aInt f.mod]]⟩) ?_ ?_
  ·refine ent_region ?_
   refine ent_o rfl (ok_loadBS (k := 3) ti24 rfl rfl rfl) ?_
   refine ent_o rfl (ok_loadBS (k := 2) ti27 rfl rfl rfl) ?_
   refine ent_o rfl (ok_call (rMCheck_ok f m) rfl) ?_
   refine ent_o rfl (ok_neq rfl rfl) ?_
   refine emm rfl ?_
   refine ent_guardXDf rfl rfl rfl rfl (fun hg43 => ?_) (fun hg43 => ?_)
   ·refine ent_o rfl (ok_fieldAddrEx Try.runUnderlying27 rfl Try.sizeOf25 (by decide) rfl) ?_
    refine ent_guardXT rfl rfl rfl rfl (decide_eq_false hg43) ?_
    refine ent_o rfl (ok_loadB (k := 2) Try.isAgg25 rfl rfl rfl) ?_
    refine ent_guardXT rfl rfl rfl rfl (decide_eq_false hg43) ?_
    refine ent_o rfl (ok_len rfl Try.runUnderlying25 rfl) ?_
    refine ent_guardXT rfl rfl rfl rfl (decide_eq_false hg43) ?_
    refine ent_o rfl (ok_lss rfl rfl) ?_
    refine ent_o rfl (ok_pickF rfl (decide_eq_false hg43) rfl) ?_
    refine ent_nil ?_
    exact ent_rep ⟨rfl, rfl, rfl, rfl, rfl, slot_bool (dq_Q ((or_iff_right hg43).trans Iff.rfl)), trivial⟩ rfl
   ·refine ent_guardXF rfl rfl rfl rfl (decide_eq_true hg43) ?_
    refine ent_guardXF rfl rfl rfl rfl (decide_eq_true hg43) ?_
    refine ent_guardXF rfl rfl rfl rfl (decide_eq_true hg43) ?_
    refine ent_o rfl (ok_pickT rfl (decide_eq_true hg43) rfl) ?_
    refine ent_nil ?_
    exact ent_rep ⟨rfl, rfl, rfl, rfl, rfl, slot_bool (dq_T rfl (Or.inl hg43)), trivial⟩ rfl
  refine ent_k K7 ?_
  refine ent_condD rfl (fun h48 => ?_) (fun h48 => ?_)
  ·refine esk rfl ?_
   refine ent_ret ?_
   exact retR1 (.inr rfl) Try.results5 (resr_tmp (res_cv rfl (cv_bool (by first | rfl | simp [hU.e1, hU.e2, hU.e3, hU.c1, hU.c2, hU.c3]))))
  ·have hm0 : mErr f m = 0 := by omega
   have hF := (mErr_zero.1 hm0).1
   have hme := (mErr_zero.1 hm0).2
   have hsz := mat_size hme
   have hgm := mat_good hme
   have hS := hF.1
   have hqb := hS.bd
   have hn2 : 2 ≤ (m.rows.length : Int) := by omega
   have hix := uq_idx (a := p.1) (b := p.2.1) hn2
   have hcf := uq_coef (c := p.2.2) (show 2 ≤ f.q by omega)
   have hU := uq_facts (i := p.1 % (m.rows.length : Int)) (j := (p.1 % (m.rows.length : Int) + 1 + p.2.1 % ((m.rows.length : Int) - 1)) % (m.rows.length : Int)) (a := 1 + p.2.2 % (f.q - 1)) hm0 hix.1 hix.2.1 hix.2.2.2.2.1 hix.2.2.2.2.2.1 hix.2.2.2.2.2.2 (by omega) (by omega)
   have hl1 := hU.l1
   have hl2 := hU.l2
   have hl3 := hU.l3
   have wi1 := (hU.w1 _ (ix_mem' hix.1 (by omega))).1
   have wj1 := (hU.w1 _ (ix_mem' hix.2.2.2.2.1 (by omega))).1
   have wj2 := (hU.w2 _ (ix_mem' hix.2.2.2.2.1 (by omega))).1
   refine esp K6 ?_
   refine ent_seq fun _ K9 => ?_
   refine esr rfl fun _ K10 => ?_
   refine ent_o rfl (ok_neq rfl rfl) ?_
   refine enk K10 ?_
   refine ent_condD rfl (fun h50 => ?_) (fun h50 => ?_)
   ·exact absurd hm0 h50
   ·refine esp K9 ?_
    refine ent_seq fun _ K11 => ?_
    refine esr rfl fun _ K12 => ?_
    refine ent_o rfl (ok_fieldAddrEx Try.runUnderlying27 rfl Try.sizeOf3 (by decide) rfl) ?_
    refine ent_o rfl (ok_loadB (k := 2) Try.isAgg3 rfl rfl rfl) ?_
    refine ent_o rfl (ok_eql rfl rfl) ?_
    refine enk K12 ?_
    refine ent_condD rfl (fun h53 => ?_) (fun h53 => ?_)
    ·refine esk rfl ?_
     refine ent_ret ?_
     exact retR1 (.inr rfl) Try.results5 (resr_tmp (res_cv rfl (cv_bool (by first | rfl | simp [hU.e1, hU.e2, hU.e3, hU.c1, hU.c2, hU.c3]))))
    ·refine esp K11 ?_
     refine esr rfl fun _ K14 => ?_
     refine ent_o rfl (ok_fieldAddrEx Try.runUnderlying27 rfl Try.sizeOf25 (by decide) rfl) ?_
     refine ent_o rfl (ok_loadB (k := 2) Try.isAgg25 rfl rfl rfl) ?_
     refine ent_o rfl (ok_len rfl Try.runUnderlying25 rfl) ?_
     refine emm rfl ?_
     refine enk K14 ?_
     refine esr rfl fun _ K15 => ?_
     refine ent_o rfl (ok_indexArr Try.runUnderlying41 Try.sizeOf5 rfl rfl (by first | omega | (simp only [List.length_set]; omega)) (by first | omega | (simp only [List.length_set]; omega))) ?_
     refine ent_o rfl (ok_loadB (k := 1) Try.isAgg5 rfl rfl rfl) ?_
     refine ent_o rfl (ok_conv8 (by rw [Try.underlying5]; rfl) Try.underlying3 rfl (by first | omega | (simp only [List.length_set]; omega)) (by first | omega | (simp only [List.length_set]; omega))) ?_
     refine emm rfl ?_
     refine ent_o rfl (ok_rem rfl rfl (by first | omega | (simp only [List.length_set]; omega)) (by first | omega | (simp only [List.length_set]; omega))) ?_
     refine emm rfl ?_
     refine enk K15 ?_
     refine esr rfl fun _ K16 => ?_
     refine ent_o rfl (ok_add rfl rfl (by first | omega | (simp only [List.length_set]; omega)) (by first | omega | (simp only [List.length_set]; omega))) ?_
     refine ent_o rfl (ok_indexArr Try.runUnderlying41 Try.sizeOf5 rfl rfl (by first | omega | (simp only [List.length_set]; omega)) (by first | omega | (simp only [List.length_set]; omega))) ?_
     refine ent_o rfl (ok_loadB (k := 1) Try.isAgg5 rfl rfl rfl) ?_
     refine ent_o rfl (ok_conv8 (by rw [Try.underlying5]; rfl) Try.underlying3 rfl (by first | omega | (simp only [List.length_set]; omega)) (by first | omega | (simp only [List.length_set]; omega))) ?_
     refine emm rfl ?_
     refine ent_o rfl (ok_sub rfl rfl (by first | omega | (simp only [List.length_set]; omega)) (by first | omega | (simp only [List.length_set]; omega))) ?_
     refine ent_o rfl (ok_rem rfl rfl (by first | omega | (simp only [List.length_set]; omega)) (by first | omega | (simp only [List.length_set]; omega))) ?_
     refine ent_o rfl (ok_add rfl rfl (by first | omega | (simp only [List.length_set]; omega)) (by first | omega | (simp only [List.length_set]; omega))) ?_
     refine emm rfl ?_
     refine ent_o rfl (ok_rem rfl rfl (by first | omega | (simp only [List.length_set]; omega)) (by first | omega | (simp only [List.length_set]; omega))) ?_
     refine emm rfl ?_
     refine enk K16 ?_
     refine ent_seq fun _ K17 => ?_
     refine ent_draw 9 mixed (by kernel_rfl) (by kernel_rfl) (by kernel_rfl) ?_
     refine dw_o rfl (ok_indexArr Try.runUnderlying41 Try.sizeOf5 rfl rfl (by first | omega | (simp only [List.length_set]; omega)) (by first | omega | (simp only [List.length_set]; omega))) ?_
     refine dw_o rfl (ok_loadB (k := 1) Try.isAgg5 rfl rfl rfl) ?_
     refine dw_o rfl (ok_conv8 (by rw [Try.underlying5]; rfl) Try.underlying3 rfl (by first | omega | (simp only [List.length_set]; omega)) (by first | omega | (simp only [List.length_set]; omega))) ?_
     refine dw_o rfl (ok_loadBS (k := 3) ti24 rfl rfl rfl) ?_
     refine dw_o rfl (ok_call (rOrder_ok f) rfl) ?_
     refine dw_o rfl (ok_sub rfl rfl (by first | omega | (simp only [List.length_set]; omega)) (by first | omega | (simp only [List.length_set]; omega))) ?_
     refine dw_o rfl (ok_rem rfl rfl (by first | omega | (simp only [List.length_set]; omega)) (by first | omega | (simp only [List.length_set]; omega))) ?_
     refine dw_o rfl (ok_add rfl rfl (by first | omega | (simp only [List.length_set]; omega)) (by first | omega | (simp only [List.length_set]; omega))) ?_
     refine dw_o rfl (ok_assign rfl) ?_
     refine dw_nil ?_
     refine enk K17 ?_
     refine esr rfl fun _ K18 => ?_
     refine ent_o rfl (ok_fieldAddrEx Try.runUnderlying27 rfl Try.sizeOf25 (by decide) rfl) ?_
     refine ent_o rfl (ok_loadB (k := 2) Try.isAgg25 rfl rfl rfl) ?_
     refine ent_callN rfl (rCopy_ok m.rows (by omega) (fun l hl => by have := (hgm l hl).1; omega)) (ArgsA.ok ⟨arg_a rfl (cv_id (sub_lent _)), trivial⟩) (fun r83 c83 => ?_)
     refine ent_rsome 0 rfl (by omega) (fun b83_5 hb83_5 => ?_)
     subst hb83_5
     refine emm rfl ?_
     refine enk K18 ?_
     refine ent_seq fun _ K19 => ?_
     refine ent_drawFl 12 [2, 3] mixed (by kernel_rfl) (by kernel_rfl) (by kernel_rfl) (by kernel_rfl) (by kernel_rfl) (fun _ _ _ _ _ h => h) ?_
     refine dw_o rfl (ok_move rfl) ?_
     refine dw_o rfl (ok_move rfl) ?_
     refine dw_o rfl (ok_move rfl) ?_
     refine dw_o rfl (ok_move rfl) ?_
     refine dw_o rfl (ok_move rfl) ?_
     refine dw_o rfl (ok_move rfl) ?_
     refine dw_o rfl (ok_indexV sl25 rfl rfl (by first | omega | (simp only [List.length_set]; omega)) (by first | omega | (simp only [List.length_set]; omega))) ?_
     refine dw_o rfl (ok_loadV (k := 0) [] ti22 rfl rfl (by first | omega | (simp only [List.length_set]; omega)) (by first | omega | (simp only [List.length_set]; omega))) ?_
     refine dw_o rfl (ok_move rfl) ?_
     refine dw_o rfl (ok_move rfl) ?_
     refine dw_o rfl (ok_indexV sl25 rfl rfl (by first | omega | (simp only [List.length_set]; omega)) (by first | omega | (simp only [List.length_set]; omega))) ?_
     refine dw_o rfl (ok_loadV (k := 0) [] ti22 rfl rfl (by first | omega | (simp only [List.length_set]; omega)) (by first | omega | (simp only [List.length_set]; omega))) ?_
     refine dw_nil ?_
     refine ent_o rfl (ok_indexV sl25 rfl rfl (by first | omega | (simp only [List.length_set]; omega)) (by first | omega | (simp only [List.length_set]; omega))) ?_
     refine ent_storeV (k := 0) (z := ix [] m.rows ((((p.1 % (↑m.rows.length : Int)) + 1) + (p.2.1 % ((↑m.rows.length : Int) - 1))) % (↑m.rows.length : Int))) ti22 rfl rfl rfl (elem_one one_sl) (by first | omega | (simp only [List.length_set]; omega)) (by first | omega | (simp only [List.length_set]; omega)) ?_
     refine ent_o rfl (ok_indexV sl25 rfl rfl (by first | omega | (simp only [List.length_set]; omega)) (by first | omega | (simp only [List.length_set]; omega))) ?_
     refine ent_storeV (k := 0) (z := ix [] m.rows (p.1 % (↑m.rows.length : Int))) ti22 rfl rfl rfl (elem_one one_sl) (by first | omega | (simp only [List.length_set]; omega)) (by first | omega | (simp only [List.length_set]; omega)) ?_
     refine enk K19 ?_
     refine esr rfl fun _ K20 => ?_
     refine ent_o rfl (ok_loadBS (k := 4) ti24 rfl rfl rfl) ?_
     refine ent_o rfl (ok_fieldAddrEx Try.runUnderlying27 rfl Try.sizeOf3 (by decide) rfl) ?_
     refine ent_o rfl (ok_loadB (k := 3) Try.isAgg3 rfl rfl rfl) ?_
     refine emm rfl ?_
     refine ent_o rfl (ok_build st27 (As := [aInt 0, aEx (.slice none 0 0)]) z27 (⟨0, 1, rfl, .inl ⟨rfl, _, rfl, (one_int _), rfl, ⟨1, 1, rfl, .inl ⟨rfl, _, rfl, (one_ex rfl), rfl, rfl⟩⟩⟩⟩)) ?_
     refine ent_o rfl (ok_callF [0] (mCanonicalF_ok f (⟨m.cols, uq1 m.rows (p.1 % (m.rows.length : Int)) ((p.1 % (m.rows.length : Int) + 1 + p.2.1 % ((m.rows.length : Int) - 1)) % (m.rows.length : Int))⟩ : Mat)) ⟨arg_a rfl (cv_id (sub_lent _)), arg_a rfl (cv_agg ⟨cv_int (by first | rfl | assumption | omega | (simp_all; done) | grind), cv_vec (k := 0) (off_lent rfl (by decide)) (by first | rfl | assumption | (simp; done) | (simp_all; done) | omega) (by first | rfl | assumption | omega | (simp_all; done) | grind), trivial⟩), trivial⟩) ?_
     refine emm rfl ?_
     refine ent_o rfl (ok_extract rfl rfl) ?_
     refine ent_o rfl (ok_extract rfl rfl) ?_
     refine ent_o rfl (ok_extract rfl rfl) ?_
     refine ent_alloc (z := .agg #[.int .i64 0, .slice none 0 0]) [aInt 0, aEx (.slice none 0 0)] rfl zv27 rfl zc27 (fun b15_6 => ?_)
     refine ent_storeBS (k := 0) Try.sizeOf27 rfl rfl rfl (AllOne.mem ⟨(one_int _), one_sl, trivial⟩) rfl rfl ?_
     show Ent _ ⟨_, [_, _, _, _, _, _]⟩ _
     refine emm rfl ?_
     refine enk K20 ?_
     refine ent_seq fun _ K21 => ?_
     refine ent_draw 14 mixed (by kernel_rfl) (by kernel_rfl) (by kernel_rfl) ?_
     refine dw_o rfl (ok_move rfl) ?_
     refine dw_o rfl (ok_move rfl) ?_
     refine dw_o rfl (ok_loadBS (k := 5) ti24 rfl rfl rfl) ?_
     refine dw_o rfl (ok_move rfl) ?_
     refine dw_o rfl (ok_move rfl) ?_
     refine dw_o rfl (ok_indexV sl25 rfl rfl (by first | omega | (simp only [List.length_set]; omega)) (by first | omega | (simp only [List.length_set]; omega))) ?_
     refine dw_o rfl (ok_loadV (k := 1) [] ti22 rfl rfl (by first | omega | (simp only [List.length_set]; omega)) (by first | omega | (simp only [List.length_set]; omega))) ?_
     refine dw_o rfl (ok_move rfl) ?_
     refine dw_o rfl (ok_move rfl) ?_
     refine dw_o rfl (ok_move rfl) ?_
     refine dw_o rfl (ok_indexV sl25 rfl rfl (by first | omega | (simp only [List.length_set]; omega)) (by first | omega | (simp only [List.length_set]; omega))) ?_
     refine dw_o rfl (ok_loadV (k := 1) [] ti22 rfl rfl (by first | omega | (simp only [List.length_set]; omega)) (by first | omega | (simp only [List.length_set]; omega))) ?_
     refine dw_o rfl (ok_call (CtrF.ctr (CtrF.sl (rAddTo_ok f (ix [] (uq1 m.rows (p.1 % (m.rows.length : Int)) ((p.1 % (m.rows.length : Int) + 1 + p.2.1 % ((m.rows.length : Int) - 1)) % (m.rows.length : Int))) (p.1 % (↑m.rows.length : Int))) (1 + (p.2.2 % (f.q - 1))) (ix [] (uq1 m.rows (p.1 % (m.rows.length : Int)) ((p.1 % (m.rows.length : Int) + 1 + p.2.1 % ((m.rows.length : Int) - 1)) % (m.rows.length : Int))) ((((p.1 % (↑m.rows.length : Int)) + 1) + (p.2.1 % ((↑m.rows.length : Int) - 1))) % (↑m.rows.length : Int))) (by first | rfl | assumption | omega | (simp_all; done) | grind) (by omega) (by omega)))) rfl) ?_
     refine dw_o rfl (ok_indexV sl25 rfl rfl (by first | omega | (simp only [List.length_set]; omega)) (by first | omega | (simp only [List.length_set]; omega))) ?_
     refine dw_nil ?_
     refine ent_storeV (k := 1) (z := addTo f (ix [] (uq1 m.rows (p.1 % (m.rows.length : Int)) ((p.1 % (m.rows.length : Int) + 1 + p.2.1 % ((m.rows.length : Int) - 1)) % (m.rows.length : Int))) (p.1 % (↑m.rows.length : Int))) (1 + (p.2.2 % (f.q - 1))) (ix [] (uq1 m.rows (p.1 % (m.rows.length : Int)) ((p.1 % (m.rows.length : Int) + 1 + p.2.1 % ((m.rows.length : Int) - 1)) % (m.rows.length : Int))) ((((p.1 % (↑m.rows.length : Int)) + 1) + (p.2.1 % ((↑m.rows.length : Int) - 1))) % (↑m.rows.length : Int)))) ti22 rfl rfl rfl (elem_one one_sl) (by first | omega | (simp only [List.length_set]; omega)) (by first | omega | (simp only [List.length_set]; omega)) ?_
     refine enk K21 ?_
     refine esr rfl fun _ K22 => ?_
     refine ent_o rfl (ok_loadBS (k := 5) ti24 rfl rfl rfl) ?_
     refine ent_o rfl (ok_fieldAddrEx Try.runUnderlying27 rfl Try.sizeOf3 (by decide) rfl) ?_
     refine ent_o rfl (ok_loadB (k := 4) Try.isAgg3 rfl rfl rfl) ?_
     refine emm rfl ?_
     refine ent_o rfl (ok_build st27 (As := [aInt 0, aEx (.slice none 0 0)]) z27 (⟨0, 1, rfl, .inl ⟨rfl, _, rfl, (one_int _), rfl, ⟨1, 1, rfl, .inl ⟨rfl, _, rfl, (one_ex rfl), rfl, rfl⟩⟩⟩⟩)) ?_
     refine ent_o rfl (ok_callF [1] (mCanonicalF_ok f (⟨m.cols, uq2 f m.rows (p.1 % (m.rows.length : Int)) ((p.1 % (m.rows.length : Int) + 1 + p.2.1 % ((m.rows.length : Int) - 1)) % (m.rows.length : Int)) (1 + p.2.2 % (f.q - 1))⟩ : Mat)) ⟨arg_a rfl (cv_id (sub_lent _)), arg_a rfl (cv_agg ⟨cv_int (by first | rfl | assumption | omega | (simp_all; done) | grind), cv_vec (k := 1) (off_lent rfl (by decide)) (by first | rfl | assumption | (simp; done) | (simp_all; done) | omega) (by first | rfl | assumption | omega | (simp_all; done) | grind), trivial⟩), trivial⟩) ?_
     refine emm rfl ?_
     refine ent_o rfl (ok_extract rfl rfl) ?_
     refine ent_o rfl (ok_extract rfl rfl) ?_
     refine ent_o rfl (ok_extract rfl rfl) ?_
     refine ent_alloc (z := .agg #[.int .i64 0, .slice none 0 0]) [aInt 0, aEx (.slice none 0 0)] rfl zv27 rfl zc27 (fun b18_7 => ?_)
     refine ent_storeBS (k := 0) Try.sizeOf27 rfl rfl rfl (AllOne.mem ⟨(one_int _), one_sl, trivial⟩) rfl rfl ?_
     show Ent _ ⟨_, [_, _, _, _, _, _, _]⟩ _
     refine emm rfl ?_
     refine enk K22 ?_
     refine ent_seq fun _ K23 => ?_
     refine ent_draw 13 mixed (by kernel_rfl) (by kernel_rfl) (by kernel_rfl) ?_
     refine dw_o rfl (ok_move rfl) ?_
     refine dw_o rfl (ok_move rfl) ?_
     refine dw_o rfl (ok_loadBS (k := 6) ti24 rfl rfl rfl) ?_
     refine dw_o rfl (ok_fieldAddrEx Try.runUnderlying27 rfl Try.sizeOf3 (by decide) rfl) ?_
     refine dw_o rfl (ok_loadB (k := 5) Try.isAgg3 rfl rfl rfl) ?_
     refine dw_o rfl (ok_makeA aInt 0 vt22 rfl rfl (by first | omega | (simp only [List.length_set]; omega)) (by first | omega | (simp only [List.length_set]; omega)) (by first | omega | (simp only [List.length_set]; omega)) (fun _ _ => rfl) (AllV.mem ⟨rfl, trivial⟩)) ?_
     refine dw_o rfl (ok_move rfl) ?_
     refine dw_o rfl (ok_move rfl) ?_
     refine dw_o rfl (ok_move rfl) ?_
     refine dw_o rfl (ok_indexV sl25 rfl rfl (by first | omega | (simp only [List.length_set]; omega)) (by first | omega | (simp only [List.length_set]; omega))) ?_
     refine dw_o rfl (ok_loadV (k := 2) [] ti22 rfl rfl (by first | omega | (simp only [List.length_set]; omega)) (by first | omega | (simp only [List.length_set]; omega))) ?_
     refine dw_o rfl (ok_callA (CtrF.ctr (CtrF.sl (rAddTo_ok f (List.replicate (m.cols).toNat 0) (1 + (p.2.2 % (f.q - 1))) (ix [] (uq2 f m.rows (p.1 % (m.rows.length : Int)) ((p.1 % (m.rows.length : Int) + 1 + p.2.1 % ((m.rows.length : Int) - 1)) % (m.rows.length : Int)) (1 + p.2.2 % (f.q - 1))) ((((p.1 % (↑m.rows.length : Int)) + 1) + (p.2.1 % ((↑m.rows.length : Int) - 1))) % (↑m.rows.length : Int))) (by first | rfl | assumption | omega | (simp_all; done) | grind) (by simp; omega) (by simp; omega)))) ⟨arg_a rfl (cv_id sub_refl), arg_a rfl (cv_fr sub_refl), arg_a rfl (cv_id sub_refl), arg_a rfl (cv_id sub_refl), trivial⟩) ?_
     refine dw_o rfl (ok_indexV sl25 rfl rfl (by first | omega | (simp only [List.length_set]; omega)) (by first | omega | (simp only [List.length_set]; omega))) ?_
     refine dw_nil ?_
     refine ent_storeV (k := 2) (z := addTo f (List.replicate (m.cols).toNat 0) (1 + (p.2.2 % (f.q - 1))) (ix [] (uq2 f m.rows (p.1 % (m.rows.length : Int)) ((p.1 % (m.rows.length : Int) + 1 + p.2.1 % ((m.rows.length : Int) - 1)) % (m.rows.length : Int)) (1 + p.2.2 % (f.q - 1))) ((((p.1 % (↑m.rows.length : Int)) + 1) + (p.2.1 % ((↑m.rows.length : Int) - 1))) % (↑m.rows.length : Int)))) ti22 rfl rfl rfl (elem_one one_sl) (by first | omega | (simp only [List.length_set]; omega)) (by first | omega | (simp only [List.length_set]; omega)) ?_
     refine enk K23 ?_
     refine esr rfl fun _ K24 => ?_
     refine ent_o rfl (ok_loadBS (k := 6) ti24 rfl rfl rfl) ?_
     refine ent_o rfl (ok_fieldAddrEx Try.runUnderlying27 rfl Try.sizeOf3 (by decide) rfl) ?_
     refine ent_o rfl (ok_loadB (k := 5) Try.isAgg3 rfl rfl rfl) ?_
     refine emm rfl ?_
     refine ent_o rfl (ok_build st27 (As := [aInt 0, aEx (.slice none 0 0)]) z27 (⟨0, 1, rfl, .inl ⟨rfl, _, rfl, (one_int _), rfl, ⟨1, 1, rfl, .inl ⟨rfl, _, rfl, (one_ex rfl), rfl, rfl⟩⟩⟩⟩)) ?_
     refine ent_o rfl (ok_callF [2] (mCanonicalF_ok f (⟨m.cols, uq3 f m.rows m.cols (p.1 % (m.rows.length : Int)) ((p.1 % (m.rows.length : Int) + 1 + p.2.1 % ((m.rows.length : Int) - 1)) % (m.rows.length : Int)) (1 + p.2.2 % (f.q - 1))⟩ : Mat)) ⟨arg_a rfl (cv_id (sub_lent _)), arg_a rfl (cv_agg ⟨cv_int (by first | rfl | assumption | omega | (simp_all; done) | grind), cv_vec (k := 2) (off_lent rfl (by decide)) (by first | rfl | assumption | (simp; done) | (simp_all; done) | omega) (by first | rfl | assumption | omega | (simp_all; done) | grind), trivial⟩), trivial⟩) ?_
     refine emm rfl ?_
     refine ent_o rfl (ok_extract rfl rfl) ?_
     refine ent_o rfl (ok_extract rfl rfl) ?_
     refine ent_o rfl (ok_extract rfl rfl) ?_
     refine ent_alloc (z := .agg #[.int .i64 0, .slice none 0 0]) [aInt 0, aEx (.slice none 0 0)] rfl zv27 rfl zc27 (fun b21_8 => ?_)
     refine ent_storeBS (k := 0) Try.sizeOf27 rfl rfl rfl (AllOne.mem ⟨(one_int _), one_sl, trivial⟩) rfl rfl ?_
     show Ent _ ⟨_, [_, _, _, _, _, _, _, _]⟩ _
     refine emm rfl ?_
     refine enk K24 ?_
     refine ent_seq fun _ K25 => ?_
     refine ent_cut (⟨[(6, aBool (decide (((((((mErr f (⟨m.cols, uq1 m.rows (p.1 % (m.rows.length : Int)) ((p.1 % (m.rows.length : Int) + 1 + p.2.1 % ((m.rows.length : Int) - 1)) % (m.rows.length : Int))⟩ : Mat)) = 0) ∧ ((mErr f (⟨m.cols, uq2 f m.rows (p.1 % (m.rows.length : Int)) ((p.1 % (m.rows.length : Int) + 1 + p.2.1 % ((m.rows.length : Int) - 1)) % (m.rows.length : Int)) (1 + p.2.2 % (f.q - 1))⟩ : Mat)) = 0)) ∧ ((mErr f (⟨m.cols, uq3 f m.rows m.cols (p.1 % (m.rows.length : Int)) ((p.1 % (m.rows.length : Int) + 1 + p.2.1 % ((m.rows.length : Int) - 1)) % (m.rows.length : Int)) (1 + p.2.2 % (f.q - 1))⟩ : Mat)) = 0)) ∧ ((canM f (⟨m.cols, uq1 m.rows (p.1 % (m.rows.length : Int)) ((p.1 % (m.rows.length : Int) + 1 + p.2.1 % ((m.rows.length : Int) - 1)) % (m.rows.length : Int))⟩ : Mat)) = (canM f m))) ∧ ((canM f (⟨m.cols, uq2 f m.rows (p.1 % (m.rows.length : Int)) ((p.1 % (m.rows.length : Int) + 1 + p.2.1 % ((m.rows.length : Int) - 1)) % (m.rows.length : Int)) (1 + p.2.2 % (f.q - 1))⟩ : Mat)) = (canM f m))) ∧ ((canM f (⟨m.cols, uq3 f m.rows m.cols (p.1 % (m.rows.length : Int)) ((p.1 % (m.rows.length : Int) + 1 + p.2.1 % ((m.rows.length : Int) - 1)) % (m.rows.length : Int)) (1 + p.2.2 % (f.q - 1))⟩ : Mat)) = (canM f m)))))], [oBox b21_8 27 [aInt ((canM f (⟨m.cols, uq3 f m.rows m.cols (p.1 % (m.rows.length : Int)) ((p.1 % (m.rows.length : Int) + 1 + p.2.1 % ((m.rows.length : Int) - 1)) % (m.rows.length : Int)) (1 + p.2.2 % (f.q - 1))⟩ : Mat)).cols), aSl 1 false aInts ((canM f (⟨m.cols, uq3 f m.rows m.cols (p.1 % (m.rows.length : Int)) ((p.1 % (m.rows.length : Int) + 1 + p.2.1 % ((m.rows.length : Int) - 1)) % (m.rows.length : Int)) (1 + p.2.2 % (f.q - 1))⟩ : Mat)).rows)], oBox b18_7 27 [aInt ((canM f (⟨m.cols, uq2 f m.rows (p.1 % (m.rows.length : Int)) ((p.1 % (m.rows.length : Int) + 1 + p.2.1 % ((m.rows.length : Int) - 1)) % (m.rows.length : Int)) (1 + p.2.2 % (f.q - 1))⟩ : Mat)).cols), aSl 1 false aInts ((canM f (⟨m.cols, uq2 f m.rows (p.1 % (m.rows.length : Int)) ((p.1 % (m.rows.length : Int) + 1 + p.2.1 % ((m.rows.length : Int) - 1)) % (m.rows.length : Int)) (1 + p.2.2 % (f.q - 1))⟩ : Mat)).rows)], oBox b15_6 27 [aInt ((canM f (⟨m.cols, uq1 m.rows (p.1 % (m.rows.length : Int)) ((p.1 % (m.rows.length : Int) + 1 + p.2.1 % ((m.rows.length : Int) - 1)) % (m.rows.length : Int))⟩ : Mat)).cols), aSl 1 false aInts ((canM f (⟨m.cols, uq1 m.rows (p.1 % (m.rows.length : Int)) ((p.1 % (m.rows.length : Int) + 1 + p.2.1 % ((m.rows.length : Int) - 1)) % (m.rows.length : Int))⟩ : Mat)).rows)], oVec (some b83_5) c83 22 1 false aInts (uq3 f m.rows m.cols (p.1 % (m.rows.length : Int)) ((p.1 % (m.rows.length : Int) + 1 + p.2.1 % ((m.rows.length : Int) - 1)) % (m.rows.length : Int)) (1 + p.2.2 % (f.q - 1))), oBox b7_4 27 [aInt ((canM f m).cols), aSl 1 false aInts ((canM f m).rows)], oBox b5_3 41 [aU8 p.1, aU8 p.2.1, aU8 p.2.2], oBox b4_2 27 [aInt m.cols, aSl 1 false aInts m.rows], oBox b3_1 24 [aInt f.P, aInt f.M, aSl 1 false aInt f.mod]]⟩) ?_ ?_
     ·refine ent_region ?_
      refine emm rfl ?_
      refine ent_o rfl (ok_eql rfl rfl) ?_
      refine emm rfl ?_
      refine ent_guardXDt rfl rfl rfl rfl (fun hg157 => ?_) (fun hg157 => ?_)
      ·refine emm rfl ?_
       refine ent_guardXT rfl rfl rfl rfl (decide_eq_true hg157) ?_
       refine ent_o rfl (ok_eql rfl rfl) ?_
       refine ent_o rfl (ok_pickT rfl (decide_eq_true hg157) rfl) ?_
       refine emm rfl ?_
       refine ent_guardXDt rfl rfl rfl rfl (fun hg161 => ?_) (fun hg161 => ?_)
       ·refine emm rfl ?_
        refine ent_guardXT rfl rfl rfl rfl (decide_eq_true hg161) ?_
        refine ent_o rfl (ok_eql rfl rfl) ?_
        refine ent_o rfl (ok_pickT rfl (decide_eq_true hg161) rfl) ?_
        refine emm rfl ?_
        refine ent_guardXDt rfl rfl rfl rfl (fun hg165 => ?_) (fun hg165 => ?_)
        ·refine ent_o rfl (ok_loadBS (k := 2) ti27 rfl rfl rfl) ?_
         refine ent_guardXT rfl rfl rfl rfl (decide_eq_true hg165) ?_
         refine ent_o rfl (ok_loadBS (k := 4) ti27 rfl rfl rfl) ?_
         refine ent_guardXT rfl rfl rfl rfl (decide_eq_true hg165) ?_
         refine ent_o rfl (ok_call (rSame_ok (canM f (⟨m.cols, uq1 m.rows (p.1 % (m.rows.length : Int)) ((p.1 % (m.rows.length : Int) + 1 + p.2.1 % ((m.rows.length : Int) - 1)) % (m.rows.length : Int))⟩ : Mat)) (canM f m)) rfl) ?_
         refine ent_o rfl (ok_pickT rfl (decide_eq_true hg165) rfl) ?_
         refine emm rfl ?_
         refine ent_guardXDt rfl rfl rfl rfl (fun hg170 => ?_) (fun hg170 => ?_)
         ·refine ent_o rfl (ok_loadBS (k := 1) ti27 rfl rfl rfl) ?_
          refine ent_guardXT rfl rfl rfl rfl (decide_eq_true hg170) ?_
          refine ent_o rfl (ok_loadBS (k := 4) ti27 rfl rfl rfl) ?_
          refine ent_guardXT rfl rfl rfl rfl (decide_eq_true hg170) ?_
          refine ent_o rfl (ok_call (rSame_ok (canM f (⟨m.cols, uq2 f m.rows (p.1 % (m.rows.length : Int)) ((p.1 % (m.rows.length : Int) + 1 + p.2.1 % ((m.rows.length : Int) - 1)) % (m.rows.length : Int)) (1 + p.2.2 % (f.q - 1))⟩ : Mat)) (canM f m)) rfl) ?_
          refine ent_o rfl (ok_pickT rfl (decide_eq_true hg170) rfl) ?_
          refine emm rfl ?_
          refine ent_guardXDt rfl rfl rfl rfl (fun hg175 => ?_) (fun hg175 => ?_)
          ·refine ent_o rfl (ok_loadBS (k := 0) ti27 rfl rfl rfl) ?_
           refine ent_guardXT rfl rfl rfl rfl (decide_eq_true hg175) ?_
           refine ent_o rfl (ok_loadBS (k := 4) ti27 rfl rfl rfl) ?_
           refine ent_guardXT rfl rfl rfl rfl (decide_eq_true hg175) ?_
           refine ent_o rfl (ok_call (rSame_ok (canM f (⟨m.cols, uq3 f m.rows m.cols (p.1 % (m.rows.length : Int)) ((p.1 % (m.rows.length : Int) + 1 + p.2.1 % ((m.rows.length : Int) - 1)) % (m.rows.length : Int)) (1 + p.2.2 % (f.q - 1))⟩ : Mat)) (canM f m)) rfl) ?_
           refine ent_o rfl (ok_pickT rfl (decide_eq_true hg175) rfl) ?_
           refine emm rfl ?_
           refine ent_nil ?_
           exact ent_rep ⟨slot_bool (dq_Q ((and_iff_right ⟨⟨⟨⟨hg157, hg161⟩, hg165⟩, hg170⟩, hg175⟩).trans Iff.rfl)), trivial⟩ rfl
          ·refine ent_guardXF rfl rfl rfl rfl (decide_eq_false hg175) ?_
           refine ent_guardXF rfl rfl rfl rfl (decide_eq_false hg175) ?_
           refine ent_o rfl (ok_pickF rfl (decide_eq_false hg175) rfl) ?_
           refine emm rfl ?_
           refine ent_nil ?_
           exact ent_rep ⟨slot_bool (dq_F rfl (fun h => (fun h => hg175 h.2) h.1)), trivial⟩ rfl
         ·refine ent_guardXF rfl rfl rfl rfl (decide_eq_false hg170) ?_
          refine ent_guardXF rfl rfl rfl rfl (decide_eq_false hg170) ?_
          refine ent_o rfl (ok_pickF rfl (decide_eq_false hg170) rfl) ?_
          refine emm rfl ?_
          refine ent_guardXF rfl rfl rfl rfl rfl ?_
          refine ent_guardXF rfl rfl rfl rfl rfl ?_
          refine ent_guardXF rfl rfl rfl rfl rfl ?_
          refine ent_o rfl (ok_pickF rfl rfl rfl) ?_
          refine emm rfl ?_
          refine ent_nil ?_
          exact ent_rep ⟨slot_bool (dq_F rfl (fun h => (fun h => (fun h => hg170 h.2) h.1) h.1)), trivial⟩ rfl
        ·refine ent_guardXF rfl rfl rfl rfl (decide_eq_false hg165) ?_
         refine ent_guardXF rfl rfl rfl rfl (decide_eq_false hg165) ?_
         refine ent_o rfl (ok_pickF rfl (decide_eq_false hg165) rfl) ?_
         refine emm rfl ?_
         refine ent_guardXF rfl rfl rfl rfl rfl ?_
         refine ent_guardXF rfl rfl rfl rfl rfl ?_
         refine ent_guardXF rfl rfl rfl rfl rfl ?_
         refine ent_o rfl (ok_pickF rfl rfl rfl) ?_
         refine emm rfl ?_
         refine ent_guardXF rfl rfl rfl rfl rfl ?_
         refine ent_guardXF rfl rfl rfl rfl rfl ?_
         refine ent_guardXF rfl rfl rfl rfl rfl ?_
         refine ent_o rfl (ok_pickF rfl rfl rfl) ?_
         refine emm rfl ?_
         refine ent_nil ?_
         exact ent_rep ⟨slot_bool (dq_F rfl (fun h => (fun h => (fun h => (fun h => hg165 h.2) h.1) h.1) h.1)), trivial⟩ rfl
       ·refine ent_guardXF rfl rfl rfl rfl (decide_eq_false hg161) ?_
        refine ent_o rfl (ok_pickF rfl (decide_eq_false hg161) rfl) ?_
        refine emm rfl ?_
        refine ent_guardXF rfl rfl rfl rfl rfl ?_
        refine ent_guardXF rfl rfl rfl rfl rfl ?_
        refine ent_guardXF rfl rfl rfl rfl rfl ?_
        refine ent_o rfl (ok_pickF rfl rfl rfl) ?_
        refine emm rfl ?_
        refine ent_guardXF rfl rfl rfl rfl rfl ?_
        refine ent_guardXF rfl rfl rfl rfl rfl ?_
        refine ent_guardXF rfl rfl rfl rfl rfl ?_
        refine ent_o rfl (ok_pickF rfl rfl rfl) ?_
        refine emm rfl ?_
        refine ent_guardXF rfl rfl rfl rfl rfl ?_
        refine ent_guardXF rfl rfl rfl rfl rfl ?_
        refine ent_guardXF rfl rfl rfl rfl rfl ?_
        refine ent_o rfl (ok_pickF rfl rfl rfl) ?_
        refine emm rfl ?_
        refine ent_nil ?_
        exact ent_rep ⟨slot_bool (dq_F rfl (fun h => (fun h => (fun h => (fun h => (fun h => hg161 h.2) h.1) h.1) h.1) h.1)), trivial⟩ rfl
      ·refine ent_guardXF rfl rfl rfl rfl (decide_eq_false hg157) ?_
       refine ent_o rfl (ok_pickF rfl (decide_eq_false hg157) rfl) ?_
       refine emm rfl ?_
       refine ent_guardXF rfl rfl rfl rfl rfl ?_
       refine ent_guardXF rfl rfl rfl rfl rfl ?_
       refine ent_o rfl (ok_pickF rfl rfl rfl) ?_
       refine emm rfl ?_
       refine ent_guardXF rfl rfl rfl rfl rfl ?_
       refine ent_guardXF rfl rfl rfl rfl rfl ?_
       refine ent_guardXF rfl rfl rfl rfl rfl ?_
       refine ent_o rfl (ok_pickF rfl rfl rfl) ?_
       refine emm rfl ?_
       refine ent_guardXF rfl rfl rfl rfl rfl ?_
       refine ent_guardXF rfl rfl rfl rfl rfl ?_
       refine ent_guardXF rfl rfl rfl rfl rfl ?_
       refine ent_o rfl (ok_pickF rfl rfl rfl) ?_
       refine emm rfl ?_
       refine ent_guardXF rfl rfl rfl rfl rfl ?_
       refine ent_guardXF rfl rfl rfl rfl rfl ?_
       refine ent_guardXF rfl rfl rfl rfl rfl ?_
       refine ent_o rfl (ok_pickF rfl rfl rfl) ?_
       refine emm rfl ?_
       refine ent_nil ?_
       exact ent_rep ⟨slot_bool (dq_F rfl (fun h => (fun h => (fun h => (fun h => (fun h => hg157 h.1) h.1) h.1) h.1) h.1)), trivial⟩ rfl
     refine ent_k K25 ?_
     refine ent_ret ?_
     exact retR1 (.inr rfl) Try.results5 (resr_tmp (res_cv rfl (cv_bool (by first | rfl | simp [hU.e1, hU.e2, hU.e3, hU.c1, hU.c2, hU.c3]))))
end Go.Proofs.Ytamhdlkfhhpdpaa
