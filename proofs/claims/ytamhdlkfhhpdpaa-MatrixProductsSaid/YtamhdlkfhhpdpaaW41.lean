/-
  Facts for the law MatrixProducts.
-/
import Derived.Test.YtamhdlkfhhpdpaaProg
import Derived.Test.YtamhdlkfhhpdpaaWTab
import Derived.Test.YtamhdlkfhhpdpaaPlainSt
import Derived.Test.YtamhdlkfhhpdpaaCzLib
import Derived.Test.YtamhdlkfhhpdpaaW1
import Derived.Test.YtamhdlkfhhpdpaaW4
import Derived.Test.YtamhdlkfhhpdpaaW5
import Derived.Test.YtamhdlkfhhpdpaaW6
import Derived.Test.YtamhdlkfhhpdpaaW9
import Derived.Test.YtamhdlkfhhpdpaaW10
import Derived.Test.YtamhdlkfhhpdpaaW11
import Derived.Test.YtamhdlkfhhpdpaaW12
import Derived.Test.YtamhdlkfhhpdpaaW13
import Derived.Test.YtamhdlkfhhpdpaaW14
import Derived.Test.YtamhdlkfhhpdpaaW15
import Derived.Test.YtamhdlkfhhpdpaaW16
import Derived.Test.YtamhdlkfhhpdpaaW17
import Derived.Test.YtamhdlkfhhpdpaaW18
import Derived.Test.YtamhdlkfhhpdpaaW19
import Derived.Test.YtamhdlkfhhpdpaaW20
import Derived.Test.YtamhdlkfhhpdpaaW21
import Derived.Test.YtamhdlkfhhpdpaaW40
open Go Go.Cw
namespace Go.Proofs.Ytamhdlkfhhpdpaa
set_option maxRecDepth 100000
set_option linter.unusedVariables false
set_option linter.unusedSimpArgs false
theorem mStack_ok (f : Fld) (l : List Mat) (hn1 : l.length ≤ 1000) : Ctr Try.prog 56 [aFld f, aSl 2 true aMat l] (aTup [aMat (stkM f l), aInt (stkE f l)]) := by
 refine ctr_of Try.call56 Try.func56 rfl rfl ?_
 intro w O
 refine ent_lenC 0 2 rfl rfl (fun hlen0_2 => ?_)
 refine ent_len 1 rfl (fun hlen1 => ?_)
 refine esr rfl fun _ K1 => ?_
 refine ent_boxS rfl rfl (AllOne.mem ⟨(one_int _), (one_int _), one_sl, trivial⟩) (fun b2_1 => ?_)
 refine ent_alloc (z := .agg #[.int .i64 0, .slice none 0 0]) [aInt 0, aEx (.slice none 0 0)] rfl zv27 rfl zc27 (fun b4_2 => ?_)
 refine emm rfl ?_
 refine enk K1 ?_
 refine ent_seq fun _ K2 => ?_
 refine esr rfl fun _ K3 => ?_
 refine ent_o rfl (ok_loadBS (k := 1) ti24 rfl rfl rfl) ?_
 refine emm rfl ?_
 rcases Classical.em (opErr f l = 0) with hm0 | hm0
 ·refine ent_o rfl (ok_call (open_ok f l (opErr_zero.1 hm0).1 (opErr_zero.1 hm0).2 hn1) rfl) ?_
  refine emm rfl ?_
  refine ent_o rfl (ok_extract rfl rfl) ?_
  refine ent_o rfl (ok_extract rfl rfl) ?_
  refine emm rfl ?_
  refine enk K3 ?_
  refine esr rfl fun _ K4 => ?_
  refine ent_o rfl (ok_neq rfl rfl) ?_
  refine enk K4 ?_
  refine ent_condFP rfl (by decide) ?_
  refine esp K2 ?_
  refine ent_seq fun _ K5 => ?_
  refine esr rfl fun _ K6 => ?_
  refine ent_o rfl (ok_len rfl Try.runUnderlying67 rfl) ?_
  refine ent_o rfl (ok_eql rfl rfl) ?_
  refine enk K6 ?_
  refine ent_condD rfl (fun h26 => ?_) (fun h26 => ?_)
  ·have hnil : l = [] := List.eq_nil_of_length_eq_zero (by omega)
   have hqn : stkE f l = 0 := stkE_nil hm0 hnil
   refine esr rfl fun _ K7 => ?_
   refine ent_o rfl (ok_build st27 (As := [aInt 0, aEx (.slice none 0 0)]) z27 (rfl)) ?_
   refine ent_storeBS (k := 0) Try.sizeOf27 rfl rfl rfl (AllOne.mem ⟨(one_int _), (one_ex rfl), trivial⟩) rfl rfl ?_
   show Ent _ ⟨_, [_, _]⟩ _
   refine emm rfl ?_
   refine enk K7 ?_
   refine ent_ret ?_
   exact retR2 (.inr rfl) Try.results56 (resr_cell (k := 0) ti27 rfl rfl rfl (cv_agg ⟨cv_int (by first | (rw [stkM_no hq0]; rfl) | (rw [stkM_nil hnil]; rfl) | (rw [stkM_ok hqk hne]; done) | (rw [stkM_ok hqk hne]; rfl) | (rw [stkM_ok hqk hne, htk])), cv_nil (fun _ => rfl) (by first | (rw [stkM_no hq0]; rfl) | (rw [stkM_nil hnil]; rfl) | (rw [stkM_ok hqk hne]; done) | (rw [stkM_ok hqk hne]; rfl) | (rw [stkM_ok hqk hne, htk])), trivial⟩)) (resr_tmp (res_cv rfl (cv_int (by first | exact hqe.symm | exact hqn.symm | exact hqk.symm))))
  ·have hne : l ≠ [] := fun h => h26 (by rw [h]; rfl)
   have hl0 : 0 < (l.length : Int) := by omega
   refine esp K5 ?_
   refine esr rfl fun _ K8 => ?_
   refine ent_o rfl (ok_index Mat.no sl67 rfl rfl (by first | omega | (simp; omega)) (by first | omega | (simp; omega))) ?_
   refine ent_o rfl (ok_fieldAddr1 Try.runUnderlying27 rfl Try.sizeOf3 rfl rfl) ?_
   refine ent_o rfl (ok_load ti3 rfl) ?_
   refine ent_o rfl (ok_build st27 (As := [aInt 0, aEx (.slice none 0 0)]) z27 (⟨0, 1, rfl, .inl ⟨rfl, _, rfl, (one_int _), rfl, rfl⟩⟩)) ?_
   refine ent_alloc (z := .agg #[.int .i64 0, .slice none 0 0]) [aInt 0, aEx (.slice none 0 0)] rfl zv27 rfl zc27 (fun b8_3 => ?_)
   refine ent_storeBS (k := 0) Try.sizeOf27 rfl rfl rfl (AllOne.mem ⟨(one_int _), (one_ex rfl), trivial⟩) rfl rfl ?_
   show Ent _ ⟨_, [_, _, _]⟩ _
   refine enk K8 ?_
   refine esk rfl ?_
   refine ent_seq fun _ K10 => ?_
   refine esr rfl fun _ K11 => ?_
   refine ent_o rfl (ok_len rfl Try.runUnderlying67 rfl) ?_
   refine emm rfl ?_
   refine enk K11 ?_
   refine ent_block ?_
   refine ent_loop (fun (i : Int) => (⟨[(1, aSl 2 true aMat l), (4, aEx (.pointer (some ⟨b4_2, 0, none⟩))), (8, aEx (.pointer (some ⟨b8_3, 0, none⟩))), (9, aInt 0), (33, aSl 2 true aMat l), (34, aInt (↑l.length : Int)), (35, aInt i)], [oBox b8_3 27 [aInt ((ix Mat.no l 0).cols), aEx (.slice none 0 0)], oBox b4_2 27 [aInt 0, aEx (.slice none 0 0)], oBox b2_1 24 [aInt f.P, aInt f.M, aSl 1 false aInt f.mod]]⟩ : St)) (fun (i : Int) => (0 ≤ i) ∧ (i ≤ l.length) ∧ (∀ m ∈ l.take i.toNat, m.cols = (ix Mat.no l 0).cols)) (fun (i : Int) => (l.length - i).toNat) 0 ⟨(by first | rfl | assumption | omega | (simp_all; done) | grind), (by first | rfl | assumption | omega | (simp_all; done) | grind), (by simp)⟩ (ent_rep ⟨rfl, rfl, rfl, rfl, rfl, rfl, slot_av (av_int (show 0 = (0 : Int) by first | rfl | assumption | omega | (simp_all; done) | grind)), trivial⟩ rfl) ?_
   rintro i ⟨h0, h1, hn⟩
   show Ent _ ⟨_, [_, _, _]⟩ _
   refine esr rfl fun _ K12 => ?_
   refine ent_o rfl (ok_lss rfl rfl) ?_
   refine enk K12 ?_
   refine ent_seq fun _ K13 => ?_
   refine ent_condD rfl (fun h36 => ?_) (fun h36 => ?_)
   ·refine esp K13 ?_
    refine ent_seq fun _ K14 => ?_
    refine ent_block ?_
    refine esr rfl fun _ K15 => ?_
    refine ent_o rfl (ok_index Mat.no sl67 rfl rfl (by first | omega | (simp; omega)) (by first | omega | (simp; omega))) ?_
    refine ent_o rfl (ok_load ti27 rfl) ?_
    refine ent_alloc (z := .agg #[.int .i64 0, .slice none 0 0]) [aInt 0, aEx (.slice none 0 0)] rfl zv27 rfl zc27 (fun b11_4 => ?_)
    refine ent_storeBS (k := 0) Try.sizeOf27 rfl rfl rfl (AllOne.mem ⟨(one_int _), one_sl, trivial⟩) rfl rfl ?_
    show Ent _ ⟨_, [_, _, _, _]⟩ _
    refine enk K15 ?_
    refine esr rfl fun _ K16 => ?_
    refine ent_o rfl (ok_fieldAddrEx Try.runUnderlying27 rfl Try.sizeOf3 (by decide) rfl) ?_
    refine ent_o rfl (ok_loadB (k := 0) Try.isAgg3 rfl rfl rfl) ?_
    refine ent_o rfl (ok_fieldAddrEx Try.runUnderlying27 rfl Try.sizeOf3 (by decide) rfl) ?_
    refine ent_o rfl (ok_loadB (k := 1) Try.isAgg3 rfl rfl rfl) ?_
    refine ent_o rfl (ok_neq rfl rfl) ?_
    refine enk K16 ?_
    refine ent_condD rfl (fun h43 => ?_) (fun h43 => ?_)
    ·have hqe : stkE f l = 10 := stkE_bad hm0 h0 h36 h43
     have hq0 : stkE f l ≠ 0 := by rw [hqe]; decide
     refine esr rfl fun _ K17 => ?_
     refine ent_o rfl (ok_build st27 (As := [aInt 0, aEx (.slice none 0 0)]) z27 (rfl)) ?_
     refine ent_storeBS (k := 2) Try.sizeOf27 rfl rfl rfl (AllOne.mem ⟨(one_int _), (one_ex rfl), trivial⟩) rfl rfl ?_
     show Ent _ ⟨_, [_, _, _, _]⟩ _
     refine emm rfl ?_
     refine enk K17 ?_
     refine ent_ret ?_
     exact retR2 (.inr rfl) Try.results56 (resr_cell (k := 2) ti27 rfl rfl rfl (cv_agg ⟨cv_int (by first | (rw [stkM_no hq0]; rfl) | (rw [stkM_nil hnil]; rfl) | (rw [stkM_ok hqk hne]; done) | (rw [stkM_ok hqk hne]; rfl) | (rw [stkM_ok hqk hne, htk])), cv_nil (fun _ => rfl) (by first | (rw [stkM_no hq0]; rfl) | (rw [stkM_nil hnil]; rfl) | (rw [stkM_ok hqk hne]; done) | (rw [stkM_ok hqk hne]; rfl) | (rw [stkM_ok hqk hne, htk])), trivial⟩)) (resr_tmp (res_cv rfl (cv_int (by first | exact hqe.symm | exact hqn.symm | exact hqk.symm))))
    ·refine esp K14 ?_
     refine ent_region ?_
     refine ent_o rfl (ok_add rfl rfl (by first | omega | (simp; omega)) (by first | omega | (simp; omega))) ?_
     refine emm rfl ?_
     refine ent_nil ?_
     refine ent_drop 0 ?_
     refine ent_again (s := (i)) (i + 1) ⟨(by first | rfl | assumption | omega | (simp_all; done) | grind), (by first | rfl | assumption | omega | (simp_all; done) | grind), (not_take_succ Mat.no h0 (by omega) hn (Classical.not_not.1 h43))⟩ (by first | omega | (dsimp only; omega)) (ent_rep ⟨rfl, rfl, rfl, rfl, rfl, rfl, rfl, trivial⟩ rfl)
   ·have hc : ∀ m ∈ l, m.cols = (ix Mat.no l 0).cols := take_all (by omega) hn
    refine ent_exit ?_
    refine ent_k K10 ?_
    refine ent_seq fun _ K18 => ?_
    refine esr rfl fun _ K19 => ?_
    refine ent_o rfl (ok_len rfl Try.runUnderlying67 rfl) ?_
    refine emm rfl ?_
    refine enk K19 ?_
    refine ent_block ?_
    refine ent_open 22 1 false aInts (fun _ => rfl) ?_
    refine ent_loop (fun (ss : Int × Option Nat × Nat) => match ss with | (i, rr6, cc6) => (⟨[(4, aEx (.pointer (some ⟨b4_2, 0, none⟩))), (8, aEx (.pointer (some ⟨b8_3, 0, none⟩))), (9, aInt ((flatR (l.take i.toNat)).length : Int)), (46, aSl 2 true aMat l), (47, aInt (↑l.length : Int)), (48, aInt i)], [oVec rr6 cc6 22 1 false aInts (flatR (l.take i.toNat)), oBox b8_3 27 [aInt ((ix Mat.no l 0).cols), aEx (vec rr6 ((flatR (l.take i.toNat)).length) cc6)], oBox b4_2 27 [aInt 0, aEx (.slice none 0 0)], oBox b2_1 24 [aInt f.P, aInt f.M, aSl 1 false aInt f.mod]]⟩ : St)) (fun (ss : Int × Option Nat × Nat) => match ss with | (i, rr6, cc6) => (0 ≤ i) ∧ (i ≤ l.length) ∧ ((flatR (l.take i.toNat)).length ≤ 256)) (fun (ss : Int × Option Nat × Nat) => match ss with | (i, rr6, cc6) => (l.length - i).toNat) (0, none, 0) ⟨(by first | rfl | assumption | omega | (simp_all; done) | grind), (by first | rfl | assumption | omega | (simp_all; done) | grind), (by simp [flatR])⟩ (ent_rep ⟨rfl, rfl, slot_av (av_int (show 0 = ((flatR (l.take (0 : Int).toNat)).length : Int) by first | rfl | simp [flatR])), rfl, rfl, slot_av (av_int (show 0 = (0 : Int) by first | rfl | assumption | omega | (simp_all; done) | grind)), trivial⟩ (own_cons (own_vec (show flatR (l.take (0 : Int).toNat) = [] by first | rfl | simp [flatR])) (own_cons (own_box (av_cons rfl (av_cons ((by first | rfl | simp [flatR])) (rfl)))) (rfl)))) ?_
    rintro ⟨i, rr6, cc6⟩ ⟨k0, k1, hb⟩
    show Ent _ ⟨_, [_, _, _, _]⟩ _
    refine esr rfl fun _ K20 => ?_
    refine ent_o rfl (ok_lss rfl rfl) ?_
    refine enk K20 ?_
    refine ent_seq fun _ K21 => ?_
    refine ent_condD rfl (fun h49 => ?_) (fun h49 => ?_)
    ·have hmi := (opErr_zero.1 hm0).2 _ (ix_mem Mat.no l k0 h49)
     have hsi := mat_size hmi
     have hgi := mat_good hmi
     have hfs := flat_succ k0 h49
     have hfl : (flatR (l.take (i + 1).toNat)).length = (flatR (l.take i.toNat)).length + (ix Mat.no l i).rows.length := by rw [hfs, List.length_append]
     refine esp K21 ?_
     refine ent_seq fun _ K22 => ?_
     refine ent_block ?_
     refine esr rfl fun _ K23 => ?_
     refine ent_o rfl (ok_index Mat.no sl67 rfl rfl (by first | omega | (simp; omega)) (by first | omega | (simp; omega))) ?_
     refine ent_o rfl (ok_load ti27 rfl) ?_
     refine ent_alloc (z := .agg #[.int .i64 0, .slice none 0 0]) [aInt 0, aEx (.slice none 0 0)] rfl zv27 rfl zc27 (fun b13_7 => ?_)
     refine ent_storeBS (k := 0) Try.sizeOf27 rfl rfl rfl (AllOne.mem ⟨(one_int _), one_sl, trivial⟩) rfl rfl ?_
     show Ent _ ⟨_, [_, _, _, _, _]⟩ _
     refine enk K23 ?_
     refine esr rfl fun _ K24 => ?_
     refine ent_o rfl (ok_fieldAddrEx Try.runUnderlying27 rfl Try.sizeOf25 (by decide) rfl) ?_
     refine ent_o rfl (ok_loadB (k := 0) Try.isAgg25 rfl rfl rfl) ?_
     refine ent_o rfl (ok_len rfl Try.runUnderlying25 rfl) ?_
     refine ent_o rfl (ok_add rfl rfl (by first | omega | (simp; omega)) (by first | omega | (simp; omega))) ?_
     refine emm rfl ?_
     refine enk K24 ?_
     refine ent_seq fun _ K25 => ?_
     refine esr rfl fun _ K26 => ?_
     refine ent_o rfl (ok_gtr rfl rfl) ?_
     refine enk K26 ?_
     refine ent_condD rfl (fun h58 => ?_) (fun h58 => ?_)
     ·have hqe : stkE f l = 8 := stkE_big hm0 hne hc (n := (i + 1).toNat) (by omega)
      have hq0 : stkE f l ≠ 0 := by rw [hqe]; decide
      refine esr rfl fun _ K27 => ?_
      refine ent_o rfl (ok_build st27 (As := [aInt 0, aEx (.slice none 0 0)]) z27 (rfl)) ?_
      refine ent_storeBS (k := 3) Try.sizeOf27 rfl rfl rfl (AllOne.mem ⟨(one_int _), (one_ex rfl), trivial⟩) rfl rfl ?_
      show Ent _ ⟨_, [_, _, _, _, _]⟩ _
      refine emm rfl ?_
      refine enk K27 ?_
      refine ent_ret ?_
      exact retR2 (.inr rfl) Try.results56 (resr_cell (k := 3) ti27 rfl rfl rfl (cv_agg ⟨cv_int (by first | (rw [stkM_no hq0]; rfl) | (rw [stkM_nil hnil]; rfl) | (rw [stkM_ok hqk hne]; done) | (rw [stkM_ok hqk hne]; rfl) | (rw [stkM_ok hqk hne, htk])), cv_nil (fun _ => rfl) (by first | (rw [stkM_no hq0]; rfl) | (rw [stkM_nil hnil]; rfl) | (rw [stkM_ok hqk hne]; done) | (rw [stkM_ok hqk hne]; rfl) | (rw [stkM_ok hqk hne, htk])), trivial⟩)) (resr_tmp (res_cv rfl (cv_int (by first | exact hqe.symm | exact hqn.symm | exact hqk.symm))))
     ·refine esp K25 ?_
      refine ent_draw 5 mixed (by kernel_rfl) (by kernel_rfl) (by kernel_rfl) ?_
      refine dw_o rfl (ok_fieldAddrEx Try.runUnderlying27 rfl Try.sizeOf25 (by decide) rfl) ?_
      refine dw_o rfl (ok_loadB (k := 2) Try.isAgg25 rfl rfl rfl) ?_
      refine dw_o rfl (ok_fieldAddrEx Try.runUnderlying27 rfl Try.sizeOf25 (by decide) rfl) ?_
      refine dw_o rfl (ok_loadB (k := 0) Try.isAgg25 rfl rfl rfl) ?_
      refine dw_o rfl (ok_call (cloneP_ok ((ix Mat.no l i).rows) (by omega) (fun x hx => by have := (hgi x hx).1; omega)) rfl) ?_
      refine dw_nil ?_
      refine ent_appendS (k := 1) rfl vt25 rfl rfl (by first | rfl | assumption | (simp; done) | (simp_all; done) | omega) rfl (cv_id sub_refl) (by first | omega | (simp only [List.length_append, List.length_cons, List.length_nil]; omega) | (simp; omega)) (by first | omega | (simp only [List.length_append, List.length_cons, List.length_nil]; omega) | (simp; omega)) (fun r65_7 cr65_7 => ?_)
      refine ent_o rfl (ok_fieldAddrEx Try.runUnderlying27 rfl Try.sizeOf25 (by decide) rfl) ?_
      refine ent_storeB (k := 2) Try.sizeOf25 rfl rfl rfl (one_ex rfl) rfl ?_
      refine enk K22 ?_
      refine ent_region ?_
      refine ent_o rfl (ok_add rfl rfl (by first | omega | (simp; omega)) (by first | omega | (simp; omega))) ?_
      refine emm rfl ?_
      refine ent_nil ?_
      refine ent_drop 0 ?_
      refine ent_again (s := (i, rr6, cc6)) (i + 1, r65_7, cr65_7) ⟨(by first | rfl | assumption | omega | (simp_all; done) | grind), (by first | rfl | assumption | omega | (simp_all; done) | grind), (by omega)⟩ (by first | omega | (dsimp only; omega)) (ent_rep ⟨rfl, rfl, slot_av (av_int (show ((flatR (l.take i.toNat)).length : Int) + (↑((ix Mat.no l i).rows).length : Int) = ((flatR (l.take (i + 1).toNat)).length : Int) by omega)), rfl, rfl, rfl, trivial⟩ (own_cons (own_vec (show flatR (l.take (i + 1).toNat) = (flatR (l.take i.toNat)) ++ ((ix Mat.no l i).rows) by exact hfs)) (own_cons (own_box (av_cons rfl (av_cons (av_vec (congrArg List.length (show flatR (l.take (i + 1).toNat) = (flatR (l.take i.toNat)) ++ ((ix Mat.no l i).rows) by exact hfs))) (rfl)))) (rfl))))
    ·have htk : l.take i.toNat = l := List.take_of_length_le (by omega)
     have hqk : stkE f l = 0 := stkE_ok hm0 hne hc (by rw [htk] at hb; omega)
     refine ent_exit ?_
     refine ent_k K18 ?_
     refine esr rfl fun _ K28 => ?_
     refine ent_o rfl (ok_loadBS (k := 1) ti27 rfl rfl rfl) ?_
     refine ent_storeBS (k := 2) Try.sizeOf27 rfl rfl rfl (AllOne.mem ⟨(one_int _), (one_ex rfl), trivial⟩) rfl rfl ?_
     show Ent _ ⟨_, [_, _, _, _]⟩ _
     refine emm rfl ?_
     refine enk K28 ?_
     refine ent_ret ?_
     exact retR2 (.inr rfl) Try.results56 (resr_cell (k := 2) ti27 rfl rfl rfl (cv_agg ⟨cv_int (by first | (rw [stkM_no hq0]; rfl) | (rw [stkM_nil hnil]; rfl) | (rw [stkM_ok hqk hne]; done) | (rw [stkM_ok hqk hne]; rfl) | (rw [stkM_ok hqk hne, htk])), cv_vec (k := 0) (off_x rfl) (by first | rfl | assumption | (simp; done) | (simp_all; done) | omega) (by first | (rw [stkM_no hq0]; rfl) | (rw [stkM_nil hnil]; rfl) | (rw [stkM_ok hqk hne]; done) | (rw [stkM_ok hqk hne]; rfl) | (rw [stkM_ok hqk hne, htk])), trivial⟩)) (resr_tmp (res_cv rfl (cv_int (by first | exact hqe.symm | exact hqn.symm | exact hqk.symm))))
 ·refine ent_o rfl (ok_call (open_no f l hm0) rfl) ?_
  refine emm rfl ?_
  refine ent_o rfl (ok_extract rfl rfl) ?_
  refine ent_o rfl (ok_extract rfl rfl) ?_
  refine emm rfl ?_
  refine enk K3 ?_
  refine esr rfl fun _ K29 => ?_
  refine ent_o rfl (ok_neq rfl rfl) ?_
  refine enk K29 ?_
  refine ent_condD rfl (fun h21 => ?_) (fun h21 => ?_)
  ·have hqe : stkE f l = opErr f l := stkE_op hm0
   have hq0 : stkE f l ≠ 0 := by rw [hqe]; exact hm0
   refine esr rfl fun _ K30 => ?_
   refine ent_o rfl (ok_build st27 (As := [aInt 0, aEx (.slice none 0 0)]) z27 (rfl)) ?_
   refine emm rfl ?_
   refine ent_storeBS (k := 0) Try.sizeOf27 rfl rfl rfl (AllOne.mem ⟨(one_int _), (one_ex rfl), trivial⟩) rfl rfl ?_
   show Ent _ ⟨_, [_, _]⟩ _
   refine emm rfl ?_
   refine enk K30 ?_
   refine ent_ret ?_
   exact retR2 (.inr rfl) Try.results56 (resr_cell (k := 0) ti27 rfl rfl rfl (cv_agg ⟨cv_int (by first | (rw [stkM_no hq0]; rfl) | (rw [stkM_nil hnil]; rfl) | (rw [stkM_ok hqk hne]; done) | (rw [stkM_ok hqk hne]; rfl) | (rw [stkM_ok hqk hne, htk])), cv_nil (fun _ => rfl) (by first | (rw [stkM_no hq0]; rfl) | (rw [stkM_nil hnil]; rfl) | (rw [stkM_ok hqk hne]; done) | (rw [stkM_ok hqk hne]; rfl) | (rw [stkM_ok hqk hne, htk])), trivial⟩)) (resr_tmp (res_cv rfl (cv_int (by first | exact hqe.symm | exact hqn.symm | exact hqk.symm))))
  ·exact absurd (Classical.not_not.1 h21) hm0

theorem rStack_ok (f : Fld) (l : List Mat) (hn1 : l.length ≤ 1000) : Ctr Try.prog 57 [aFld f, aSl 2 true aMat l] (aTup [aMat (stkM f l), aInt (stkE f l)]) := by
 refine ctr_of Try.call57 Try.func57 rfl rfl ?_
 intro w O
 refine ent_lenC 0 2 rfl rfl (fun hlen0_2 => ?_)
 refine ent_len 1 rfl (fun hlen1 => ?_)
 refine esr rfl fun _ K1 => ?_
 refine ent_boxS rfl rfl (AllOne.mem ⟨(one_int _), (one_int _), one_sl, trivial⟩) (fun b2_1 => ?_)
 refine ent_alloc (z := .agg #[.int .i64 0, .slice none 0 0]) [aInt 0, aEx (.slice none 0 0)] rfl zv27 rfl zc27 (fun b4_2 => ?_)
 refine emm rfl ?_
 refine enk K1 ?_
 refine esr rfl fun _ K2 => ?_
 refine ent_o rfl (ok_loadBS (k := 1) ti24 rfl rfl rfl) ?_
 refine ent_o rfl (ok_call (rCheck_ok f) rfl) ?_
 refine emm rfl ?_
 refine enk K2 ?_
 refine ent_seq fun _ K3 => ?_
 refine esk rfl ?_
 refine ent_block ?_
 refine ent_loop (fun (i : Int) => (⟨[(1, aSl 2 true aMat l), (2, aEx (.pointer (some ⟨b2_1, 0, none⟩))), (4, aEx (.pointer (some ⟨b4_2, 0, none⟩))), (6, aInt (opErr f (l.take i.toNat))), (7, aInt i)], [oBox b4_2 27 [aInt 0, aEx (.slice none 0 0)], oBox b2_1 24 [aInt f.P, aInt f.M, aSl 1 false aInt f.mod]]⟩ : St)) (fun (i : Int) => (0 ≤ i) ∧ (i ≤ l.length)) (fun (i : Int) => (l.length - i).toNat) 0 ⟨(by first | rfl | assumption | omega | (simp_all; done) | grind), (by first | rfl | assumption | omega | (simp_all; done) | grind)⟩ (ent_rep ⟨rfl, rfl, rfl, slot_av (av_int (show fErr f = opErr f (l.take (0 : Int).toNat) by exact opErr_nil f)), slot_av (av_int (show 0 = (0 : Int) by first | rfl | assumption | omega | (simp_all; done) | grind)), trivial⟩ rfl) ?_
 rintro i ⟨h0, h1⟩
 show Ent _ ⟨_, [_, _]⟩ _
 refine ent_seq fun _ K5 => ?_
 refine ent_seq fun _ K6 => ?_
 refine ent_cut (⟨[(1, aSl 2 true aMat l), (2, aEx (.pointer (some ⟨b2_1, 0, none⟩))), (4, aEx (.pointer (some ⟨b4_2, 0, none⟩))), (6, aInt (opErr f (l.take i.toNat))), (7, aInt i), (20, aBool (decide ((i < (↑l.length : Int)) ∧ ((opErr f (l.take i.toNat)) = 0))))], [oBox b4_2 27 [aInt 0, aEx (.slice none 0 0)], oBox b2_1 24 [aInt f.P, aInt f.M, aSl 1 false aInt f.mod]]⟩) ?_ ?_
 ·refine ent_region ?_
  refine emm rfl ?_
  refine ent_o rfl (ok_len rfl Try.runUnderlying67 rfl) ?_
  refine ent_o rfl (ok_lss rfl rfl) ?_
  refine emm rfl ?_
  refine ent_guardXDt rfl rfl rfl rfl (fun hg17 => ?_) (fun hg17 => ?_)
  ·refine emm rfl ?_
   refine ent_guardXT rfl rfl rfl rfl (decide_eq_true hg17) ?_
   refine ent_o rfl (ok_eql rfl rfl) ?_
   refine ent_o rfl (ok_pickT rfl (decide_eq_true hg17) rfl) ?_
   refine ent_nil ?_
   exact ent_rep ⟨rfl, rfl, rfl, rfl, rfl, slot_bool (dq_Q ((and_iff_right hg17).trans Iff.rfl)), trivial⟩ rfl
  ·refine ent_guardXF rfl rfl rfl rfl (decide_eq_false hg17) ?_
   refine ent_o rfl (ok_pickF rfl (decide_eq_false hg17) rfl) ?_
   refine ent_nil ?_
   exact ent_rep ⟨rfl, rfl, rfl, rfl, rfl, slot_bool (dq_F rfl (fun h => hg17 h.1)), trivial⟩ rfl
 refine ent_k K6 ?_
 refine ent_condD rfl (fun h20 => ?_) (fun h20 => ?_)
 ·refine esp K5 ?_
  refine ent_seq fun _ K7 => ?_
  refine ent_block ?_
  refine ent_draw 7 mixed (by kernel_rfl) (by kernel_rfl) (by kernel_rfl) ?_
  refine dw_o rfl (ok_loadBS (k := 1) ti24 rfl rfl rfl) ?_
  refine dw_o rfl (ok_move rfl) ?_
  refine dw_o rfl (ok_move rfl) ?_
  refine dw_o rfl (ok_index Mat.no sl67 rfl rfl (by first | omega | (simp; omega)) (by first | omega | (simp; omega))) ?_
  refine dw_o rfl (ok_load ti27 rfl) ?_
  refine dw_o rfl (ok_call (rMCheck_ok f (ix Mat.no l i)) rfl) ?_
  refine dw_o rfl (ok_assign rfl) ?_
  refine dw_nil ?_
  refine enk K7 ?_
  refine ent_region ?_
  refine emm rfl ?_
  refine ent_o rfl (ok_add rfl rfl (by first | omega | (simp; omega)) (by first | omega | (simp; omega))) ?_
  refine emm rfl ?_
  refine ent_nil ?_
  refine ent_again (s := (i)) (i + 1) ⟨(by first | rfl | assumption | omega | (simp_all; done) | grind), (by first | rfl | assumption | omega | (simp_all; done) | grind)⟩ (by first | omega | (dsimp only; omega)) (ent_rep ⟨rfl, rfl, rfl, slot_av (av_int (show mErr f (ix Mat.no l i) = opErr f (l.take (i + 1).toNat) by exact (opErr_succ h0 h20.1 h20.2).symm)), rfl, trivial⟩ rfl)
 ·refine ent_exit ?_
  refine ent_k K3 ?_
  refine ent_seq fun _ K8 => ?_
  refine esr rfl fun _ K9 => ?_
  refine ent_o rfl (ok_neq rfl rfl) ?_
  refine enk K9 ?_
  refine ent_condD rfl (fun h30 => ?_) (fun h30 => ?_)
  ·have hm1 : opErr f l = opErr f (l.take i.toNat) := opErr_ne h30
   have hqe : stkE f l = opErr f (l.take i.toNat) := by rw [stkE_op (by rw [hm1]; exact h30), hm1]
   have hq0 : stkE f l ≠ 0 := by rw [hqe]; exact h30
   refine esr rfl fun _ K10 => ?_
   refine ent_o rfl (ok_build st27 (As := [aInt 0, aEx (.slice none 0 0)]) z27 (rfl)) ?_
   refine emm rfl ?_
   refine ent_storeBS (k := 0) Try.sizeOf27 rfl rfl rfl (AllOne.mem ⟨(one_int _), (one_ex rfl), trivial⟩) rfl rfl ?_
   show Ent _ ⟨_, [_, _]⟩ _
   refine emm rfl ?_
   refine enk K10 ?_
   refine ent_ret ?_
   exact retR2 (.inr rfl) Try.results57 (resr_cell (k := 0) ti27 rfl rfl rfl (cv_agg ⟨cv_int (by first | (rw [stkM_no hq0]; rfl) | (rw [stkM_nil hnil]; rfl) | (rw [stkM_ok hqk hne]; done) | (rw [stkM_ok hqk hne]; rfl) | (rw [stkM_ok hqk hne, htk])), cv_nil (fun _ => rfl) (by first | (rw [stkM_no hq0]; rfl) | (rw [stkM_nil hnil]; rfl) | (rw [stkM_ok hqk hne]; done) | (rw [stkM_ok hqk hne]; rfl) | (rw [stkM_ok hqk hne, htk])), trivial⟩)) (resr_tmp (res_cv rfl (cv_int (by first | exact hqe.symm | exact hqn.symm | exact hqk.symm))))
  ·have hez := Classical.not_not.1 h30
   have hge : ¬ i < (l.length : Int) := fun h => h20 ⟨h, hez⟩
   have hm0 : opErr f l = 0 := by rw [List.take_of_length_le (by omega)] at hez; exact hez
   refine esp K8 ?_
   refine ent_seq fun _ K11 => ?_
   refine esr rfl fun _ K12 => ?_
   refine ent_o rfl (ok_len rfl Try.runUnderlying67 rfl) ?_
   refine ent_o rfl (ok_eql rfl rfl) ?_
   refine enk K12 ?_
   refine ent_condD rfl (fun h35 => ?_) (fun h35 => ?_)
   ·have hnil : l = [] := List.eq_nil_of_length_eq_zero (by omega)
    have hqn : stkE f l = 0 := stkE_nil hm0 hnil
    refine esr rfl fun _ K13 => ?_
    refine ent_o rfl (ok_build st27 (As := [aInt 0, aEx (.slice none 0 0)]) z27 (rfl)) ?_
    refine ent_storeBS (k := 0) Try.sizeOf27 rfl rfl rfl (AllOne.mem ⟨(one_int _), (one_ex rfl), trivial⟩) rfl rfl ?_
    show Ent _ ⟨_, [_, _]⟩ _
    refine emm rfl ?_
    refine enk K13 ?_
    refine ent_ret ?_
    exact retR2 (.inr rfl) Try.results57 (resr_cell (k := 0) ti27 rfl rfl rfl (cv_agg ⟨cv_int (by first | (rw [stkM_no hq0]; rfl) | (rw [stkM_nil hnil]; rfl) | (rw [stkM_ok hqk hne]; done) | (rw [stkM_ok hqk hne]; rfl) | (rw [stkM_ok hqk hne, htk])), cv_nil (fun _ => rfl) (by first | (rw [stkM_no hq0]; rfl) | (rw [stkM_nil hnil]; rfl) | (rw [stkM_ok hqk hne]; done) | (rw [stkM_ok hqk hne]; rfl) | (rw [stkM_ok hqk hne, htk])), trivial⟩)) (resr_tmp (res_cv rfl (cv_int (by first | exact hqe.symm | exact hqn.symm | exact hqk.symm))))
   ·have hne : l ≠ [] := fun h => h35 (by rw [h]; rfl)
    have hl0 : 0 < (l.length : Int) := by omega
    refine esp K11 ?_
    refine esr rfl fun _ K14 => ?_
    refine ent_o rfl (ok_index Mat.no sl67 rfl rfl (by first | omega | (simp; omega)) (by first | omega | (simp; omega))) ?_
    refine ent_o rfl (ok_fieldAddr1 Try.runUnderlying27 rfl Try.sizeOf3 rfl rfl) ?_
    refine ent_o rfl (ok_load ti3 rfl) ?_
    refine ent_o rfl (ok_build st27 (As := [aInt 0, aEx (.slice none 0 0)]) z27 (⟨0, 1, rfl, .inl ⟨rfl, _, rfl, (one_int _), rfl, rfl⟩⟩)) ?_
    refine ent_alloc (z := .agg #[.int .i64 0, .slice none 0 0]) [aInt 0, aEx (.slice none 0 0)] rfl zv27 rfl zc27 (fun b8_3 => ?_)
    refine ent_storeBS (k := 0) Try.sizeOf27 rfl rfl rfl (AllOne.mem ⟨(one_int _), (one_ex rfl), trivial⟩) rfl rfl ?_
    show Ent _ ⟨_, [_, _, _]⟩ _
    refine enk K14 ?_
    refine ent_seq fun _ K15 => ?_
    refine esk rfl ?_
    refine ent_block ?_
    refine ent_loop (fun (i : Int) => (⟨[(1, aSl 2 true aMat l), (4, aEx (.pointer (some ⟨b4_2, 0, none⟩))), (8, aEx (.pointer (some ⟨b8_3, 0, none⟩))), (9, aInt i)], [oBox b8_3 27 [aInt ((ix Mat.no l 0).cols), aEx (.slice none 0 0)], oBox b4_2 27 [aInt 0, aEx (.slice none 0 0)], oBox b2_1 24 [aInt f.P, aInt f.M, aSl 1 false aInt f.mod]]⟩ : St)) (fun (i : Int) => (0 ≤ i) ∧ (i ≤ l.length) ∧ (∀ m ∈ l.take i.toNat, m.cols = (ix Mat.no l 0).cols)) (fun (i : Int) => (l.length - i).toNat) 0 ⟨(by first | rfl | assumption | omega | (simp_all; done) | grind), (by first | rfl | assumption | omega | (simp_all; done) | grind), (by simp)⟩ (ent_rep ⟨rfl, rfl, rfl, slot_av (av_int (show 0 = (0 : Int) by first | rfl | assumption | omega | (simp_all; done) | grind)), trivial⟩ rfl) ?_
    rintro i ⟨h0, h1, hn⟩
    show Ent _ ⟨_, [_, _, _]⟩ _
    refine ent_seq fun _ K17 => ?_
    refine esr rfl fun _ K18 => ?_
    refine ent_o rfl (ok_len rfl Try.runUnderlying67 rfl) ?_
    refine ent_o rfl (ok_lss rfl rfl) ?_
    refine enk K18 ?_
    refine ent_condD rfl (fun h45 => ?_) (fun h45 => ?_)
    ·refine esp K17 ?_
     refine ent_seq fun _ K19 => ?_
     refine ent_block ?_
     refine ent_seq fun _ K20 => ?_
     refine ent_draw 8 mixed (by kernel_rfl) (by kernel_rfl) (by kernel_rfl) ?_
     refine dw_o rfl (ok_move rfl) ?_
     refine dw_o rfl (ok_move rfl) ?_
     refine dw_o rfl (ok_index Mat.no sl67 rfl rfl (by first | omega | (simp; omega)) (by first | omega | (simp; omega))) ?_
     refine dw_o rfl (ok_fieldAddr1 Try.runUnderlying27 rfl Try.sizeOf3 rfl rfl) ?_
     refine dw_o rfl (ok_load ti3 rfl) ?_
     refine dw_o rfl (ok_fieldAddrEx Try.runUnderlying27 rfl Try.sizeOf3 (by decide) rfl) ?_
     refine dw_o rfl (ok_loadB (k := 0) Try.isAgg3 rfl rfl rfl) ?_
     refine dw_o rfl (ok_neq rfl rfl) ?_
     refine dw_nil ?_
     refine enk K20 ?_
     refine ent_condD rfl (fun h55 => ?_) (fun h55 => ?_)
     ·have hqe : stkE f l = 10 := stkE_bad hm0 h0 h45 h55
      have hq0 : stkE f l ≠ 0 := by rw [hqe]; decide
      refine esr rfl fun _ K21 => ?_
      refine ent_o rfl (ok_build st27 (As := [aInt 0, aEx (.slice none 0 0)]) z27 (rfl)) ?_
      refine ent_storeBS (k := 1) Try.sizeOf27 rfl rfl rfl (AllOne.mem ⟨(one_int _), (one_ex rfl), trivial⟩) rfl rfl ?_
      show Ent _ ⟨_, [_, _, _]⟩ _
      refine emm rfl ?_
      refine enk K21 ?_
      refine ent_ret ?_
      exact retR2 (.inr rfl) Try.results57 (resr_cell (k := 1) ti27 rfl rfl rfl (cv_agg ⟨cv_int (by first | (rw [stkM_no hq0]; rfl) | (rw [stkM_nil hnil]; rfl) | (rw [stkM_ok hqk hne]; done) | (rw [stkM_ok hqk hne]; rfl) | (rw [stkM_ok hqk hne, htk])), cv_nil (fun _ => rfl) (by first | (rw [stkM_no hq0]; rfl) | (rw [stkM_nil hnil]; rfl) | (rw [stkM_ok hqk hne]; done) | (rw [stkM_ok hqk hne]; rfl) | (rw [stkM_ok hqk hne, htk])), trivial⟩)) (resr_tmp (res_cv rfl (cv_int (by first | exact hqe.symm | exact hqn.symm | exact hqk.symm))))
     ·refine esp K19 ?_
      refine ent_region ?_
      refine emm rfl ?_
      refine ent_o rfl (ok_add rfl rfl (by first | omega | (simp; omega)) (by first | omega | (simp; omega))) ?_
      refine emm rfl ?_
      refine ent_nil ?_
      refine ent_again (s := (i)) (i + 1) ⟨(by first | rfl | assumption | omega | (simp_all; done) | grind), (by first | rfl | assumption | omega | (simp_all; done) | grind), (not_take_succ Mat.no h0 (by omega) hn (Classical.not_not.1 h55))⟩ (by first | omega | (dsimp only; omega)) (ent_rep ⟨rfl, rfl, rfl, rfl, trivial⟩ rfl)
    ·have hc : ∀ m ∈ l, m.cols = (ix Mat.no l 0).cols := take_all (by omega) hn
     refine ent_exit ?_
     refine ent_k K15 ?_
     refine ent_seq fun _ K22 => ?_
     refine esk rfl ?_
     refine ent_block ?_
     refine ent_open 22 1 false aInts (fun _ => rfl) ?_
     refine ent_loop (fun (ss : Int × Option Nat × Nat) => match ss with | (i, rr5, cc5) => (⟨[(1, aSl 2 true aMat l), (4, aEx (.pointer (some ⟨b4_2, 0, none⟩))), (8, aEx (.pointer (some ⟨b8_3, 0, none⟩))), (10, aInt i)], [oVec rr5 cc5 22 1 false aInts (flatR (l.take i.toNat)), oBox b8_3 27 [aInt ((ix Mat.no l 0).cols), aEx (vec rr5 ((flatR (l.take i.toNat)).length) cc5)], oBox b4_2 27 [aInt 0, aEx (.slice none 0 0)], oBox b2_1 24 [aInt f.P, aInt f.M, aSl 1 false aInt f.mod]]⟩ : St)) (fun (ss : Int × Option Nat × Nat) => match ss with | (i, rr5, cc5) => (0 ≤ i) ∧ (i ≤ l.length) ∧ ((flatR (l.take i.toNat)).length ≤ 256)) (fun (ss : Int × Option Nat × Nat) => match ss with | (i, rr5, cc5) => (l.length - i).toNat) (0, none, 0) ⟨(by first | rfl | assumption | omega | (simp_all; done) | grind), (by first | rfl | assumption | omega | (simp_all; done) | grind), (by simp [flatR])⟩ (ent_rep ⟨rfl, rfl, rfl, slot_av (av_int (show 0 = (0 : Int) by first | rfl | assumption | omega | (simp_all; done) | grind)), trivial⟩ (own_cons (own_vec (show flatR (l.take (0 : Int).toNat) = [] by first | rfl | simp [flatR])) (own_cons (own_box (av_cons rfl (av_cons ((by first | rfl | simp [flatR])) (rfl)))) (rfl)))) ?_
     rintro ⟨i, rr5, cc5⟩ ⟨k0, k1, hb⟩
     show Ent _ ⟨_, [_, _, _, _]⟩ _
     refine ent_seq fun _ K24 => ?_
     refine esr rfl fun _ K25 => ?_
     refine ent_o rfl (ok_len rfl Try.runUnderlying67 rfl) ?_
     refine ent_o rfl (ok_lss rfl rfl) ?_
     refine enk K25 ?_
     refine ent_condD rfl (fun h60 => ?_) (fun h60 => ?_)
     ·have hmi := (opErr_zero.1 hm0).2 _ (ix_mem Mat.no l k0 h60)
      have hsi := mat_size hmi
      have hgi := mat_good hmi
      have hfs := flat_succ k0 h60
      have hfl : (flatR (l.take (i + 1).toNat)).length = (flatR (l.take i.toNat)).length + (ix Mat.no l i).rows.length := by rw [hfs, List.length_append]
      refine esp K24 ?_
      refine ent_seq fun _ K26 => ?_
      refine ent_block ?_
      refine ent_seq fun _ K27 => ?_
      refine ent_draw 8 mixed (by kernel_rfl) (by kernel_rfl) (by kernel_rfl) ?_
      refine dw_o rfl (ok_fieldAddrEx Try.runUnderlying27 rfl Try.sizeOf25 (by decide) rfl) ?_
      refine dw_o rfl (ok_loadB (k := 1) Try.isAgg25 rfl rfl rfl) ?_
      refine dw_o rfl (ok_move rfl) ?_
      refine dw_o rfl (ok_move rfl) ?_
      refine dw_o rfl (ok_index Mat.no sl67 rfl rfl (by first | omega | (simp; omega)) (by first | omega | (simp; omega))) ?_
      refine dw_o rfl (ok_fieldAddr1 Try.runUnderlying27 rfl Try.sizeOf25 rfl rfl) ?_
      refine dw_o rfl (ok_load ti25 rfl) ?_
      refine dw_o rfl (ok_call (CtrN.ctr (rCopy_ok ((ix Mat.no l i).rows) (by omega) (fun x hx => by have := (hgi x hx).1; omega))) rfl) ?_
      refine dw_nil ?_
      refine ent_appendS (k := 0) rfl vt25 rfl rfl (by first | rfl | assumption | (simp; done) | (simp_all; done) | omega) rfl (cv_id sub_refl) (by first | omega | (simp only [List.length_append, List.length_cons, List.length_nil]; omega) | (simp; omega)) (by first | omega | (simp only [List.length_append, List.length_cons, List.length_nil]; omega) | (simp; omega)) (fun r71_5 cr71_5 => ?_)
      refine ent_o rfl (ok_fieldAddrEx Try.runUnderlying27 rfl Try.sizeOf25 (by decide) rfl) ?_
      refine ent_storeB (k := 1) Try.sizeOf25 rfl rfl rfl (one_ex rfl) rfl ?_
      refine enk K27 ?_
      refine esr rfl fun _ K28 => ?_
      refine ent_o rfl (ok_fieldAddrEx Try.runUnderlying27 rfl Try.sizeOf25 (by decide) rfl) ?_
      refine ent_o rfl (ok_loadB (k := 1) Try.isAgg25 rfl rfl rfl) ?_
      refine ent_o rfl (ok_lenEx rfl Try.runUnderlying25 rfl) ?_
      refine ent_o rfl (ok_gtr rfl rfl) ?_
      refine enk K28 ?_
      refine ent_condD rfl (fun h76 => ?_) (fun h76 => ?_)
      ·have hqe : stkE f l = 8 := stkE_big hm0 hne hc (n := (i + 1).toNat) (by rw [hfs]; exact h76)
       have hq0 : stkE f l ≠ 0 := by rw [hqe]; decide
       refine esr rfl fun _ K29 => ?_
       refine ent_o rfl (ok_build st27 (As := [aInt 0, aEx (.slice none 0 0)]) z27 (rfl)) ?_
       refine ent_storeBS (k := 2) Try.sizeOf27 rfl rfl rfl (AllOne.mem ⟨(one_int _), (one_ex rfl), trivial⟩) rfl rfl ?_
       show Ent _ ⟨_, [_, _, _, _]⟩ _
       refine emm rfl ?_
       refine enk K29 ?_
       refine ent_ret ?_
       exact retR2 (.inr rfl) Try.results57 (resr_cell (k := 2) ti27 rfl rfl rfl (cv_agg ⟨cv_int (by first | (rw [stkM_no hq0]; rfl) | (rw [stkM_nil hnil]; rfl) | (rw [stkM_ok hqk hne]; done) | (rw [stkM_ok hqk hne]; rfl) | (rw [stkM_ok hqk hne, htk])), cv_nil (fun _ => rfl) (by first | (rw [stkM_no hq0]; rfl) | (rw [stkM_nil hnil]; rfl) | (rw [stkM_ok hqk hne]; done) | (rw [stkM_ok hqk hne]; rfl) | (rw [stkM_ok hqk hne, htk])), trivial⟩)) (resr_tmp (res_cv rfl (cv_int (by first | exact hqe.symm | exact hqn.symm | exact hqk.symm))))
      ·have hb2 : (flatR (l.take (i + 1).toNat)).length ≤ 256 := by rw [hfs]; omega
       refine esp K26 ?_
       refine ent_region ?_
       refine emm rfl ?_
       refine ent_o rfl (ok_add rfl rfl (by first | omega | (simp; omega)) (by first | omega | (simp; omega))) ?_
       refine emm rfl ?_
       refine ent_nil ?_
       refine ent_again (s := (i, rr5, cc5)) (i + 1, r71_5, cr71_5) ⟨(by first | rfl | assumption | omega | (simp_all; done) | grind), (by first | rfl | assumption | omega | (simp_all; done) | grind), (by omega)⟩ (by first | omega | (dsimp only; omega)) (ent_rep ⟨rfl, rfl, rfl, rfl, trivial⟩ (own_cons (own_vec (show flatR (l.take (i + 1).toNat) = (flatR (l.take i.toNat)) ++ ((ix Mat.no l i).rows) by exact hfs)) (own_cons (own_box (av_cons rfl (av_cons (av_vec (congrArg List.length (show flatR (l.take (i + 1).toNat) = (flatR (l.take i.toNat)) ++ ((ix Mat.no l i).rows) by exact hfs))) (rfl)))) (rfl))))
     ·have htk : l.take i.toNat = l := List.take_of_length_le (by omega)
      have hqk : stkE f l = 0 := stkE_ok hm0 hne hc (by rw [htk] at hb; omega)
      refine ent_exit ?_
      refine ent_k K22 ?_
      refine esr rfl fun _ K30 => ?_
      refine ent_o rfl (ok_loadBS (k := 1) ti27 rfl rfl rfl) ?_
      refine ent_storeBS (k := 2) Try.sizeOf27 rfl rfl rfl (AllOne.mem ⟨(one_int _), (one_ex rfl), trivial⟩) rfl rfl ?_
      show Ent _ ⟨_, [_, _, _, _]⟩ _
      refine emm rfl ?_
      refine enk K30 ?_
      refine ent_ret ?_
      exact retR2 (.inr rfl) Try.results57 (resr_cell (k := 2) ti27 rfl rfl rfl (cv_agg ⟨cv_int (by first | (rw [stkM_no hq0]; rfl) | (rw [stkM_nil hnil]; rfl) | (rw [stkM_ok hqk hne]; done) | (rw [stkM_ok hqk hne]; rfl) | (rw [stkM_ok hqk hne, htk])), cv_vec (k := 0) (off_x rfl) (by first | rfl | assumption | (simp; done) | (simp_all; done) | omega) (by first | (rw [stkM_no hq0]; rfl) | (rw [stkM_nil hnil]; rfl) | (rw [stkM_ok hqk hne]; done) | (rw [stkM_ok hqk hne]; rfl) | (rw [stkM_ok hqk hne, htk])), trivial⟩)) (resr_tmp (res_cv rfl (cv_int (by first | exact hqe.symm | exact hqn.symm | exact hqk.symm))))
end Go.Proofs.Ytamhdlkfhhpdpaa

