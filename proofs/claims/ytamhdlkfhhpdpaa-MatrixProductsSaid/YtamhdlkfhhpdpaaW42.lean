/-
  Facts for the law MatrixProducts.
-/
import Derived.Test.YtamhdlkfhhpdpaaProg
import Derived.Test.YtamhdlkfhhpdpaaWTab
import Derived.Test.YtamhdlkfhhpdpaaPlainBs
import Derived.Test.YtamhdlkfhhpdpaaCgLib
import Derived.Test.YtamhdlkfhhpdpaaW1
import Derived.Test.YtamhdlkfhhpdpaaW4
import Derived.Test.YtamhdlkfhhpdpaaW5
import Derived.Test.YtamhdlkfhhpdpaaW6
import Derived.Test.YtamhdlkfhhpdpaaW9
import Derived.Test.YtamhdlkfhhpdpaaW10
import Derived.Test.YtamhdlkfhhpdpaaW11
import Derived.Test.YtamhdlkfhhpdpaaW12
import Derived.Test.YtamhdlkfhhpdpaaW13
import Derived.Test.YtamhdlkfhhpdpaaW14
import Derived.Test.YtamhdlkfhhpdpaaW15
import Derived.Test.YtamhdlkfhhpdpaaW16
import Derived.Test.YtamhdlkfhhpdpaaW17
import Derived.Test.YtamhdlkfhhpdpaaW18
import Derived.Test.YtamhdlkfhhpdpaaW19
import Derived.Test.YtamhdlkfhhpdpaaW20
import Derived.Test.YtamhdlkfhhpdpaaW21
open Go Go.Cw
namespace Go.Proofs.Ytamhdlkfhhpdpaa
set_option maxRecDepth 100000
set_option linter.unusedVariables false
set_option linter.unusedSimpArgs false
theorem Grow_ok (n : Int) (hn0 : 0 ≤ n) (hn1 : n ≤ 1000000) : CtrF Try.prog 103 [aEx (.slice none 0 0), aInt n] (aVec 3 1 false aInt ([] : List Int)) := by
 refine ctrF_of Try.call103 Try.func103 rfl rfl ?_
 intro w O
 refine esk rfl ?_
 refine ent_seq fun _ K2 => ?_
 refine esr rfl fun _ K3 => ?_
 refine ent_o rfl (ok_lss rfl rfl) ?_
 refine enk K3 ?_
 refine ent_condD rfl (fun h6 => ?_) (fun h6 => ?_)
 ·omega
 ·refine esp K2 ?_
  refine ent_seq fun _ K4 => ?_
  refine esr rfl fun _ K5 => ?_
  refine ent_o rfl (ok_capEx rfl Try.runUnderlying22 rfl) ?_
  refine emm rfl ?_
  refine ent_o rfl (ok_lenEx rfl Try.runUnderlying22 rfl) ?_
  refine ent_o rfl (ok_sub rfl rfl (by omega) (by omega)) ?_
  refine ent_o rfl (ok_sub rfl rfl (by omega) (by omega)) ?_
  refine emm rfl ?_
  refine enk K5 ?_
  refine esr rfl fun _ K6 => ?_
  refine ent_o rfl (ok_gtr rfl rfl) ?_
  refine enk K6 ?_
  refine ent_condD rfl (fun h16 => ?_) (fun h16 => ?_)
  ·refine ent_region ?_
   refine emm rfl ?_
   refine ent_o rfl (ok_capEx rfl Try.runUnderlying22 rfl) ?_
   refine ent_o rfl (ok_cutNil sl22 rfl rfl) ?_
   refine emm rfl ?_
   refine ent_open 3 1 false aInt (fun _ => rfl) ?_
   refine ent_appendZ (k := 0) vt22 Try.underlying3 rfl rfl rfl rfl (by omega) (by omega) (by omega) (fun r22_1 cr22_1 => ?_)
   refine emm rfl ?_
   refine ent_o rfl (ok_lenEx rfl Try.runUnderlying22 rfl) ?_
   refine ent_o rfl (ok_cut0 sl22 rfl rfl) ?_
   refine emm rfl ?_
   refine enk K4 ?_
   refine esk rfl ?_
   refine ent_ret ?_
   exact retR1 (.inr rfl) Try.results103 (resr_tmp (res_cv rfl (cvF_vecV (k := 0) flat_int rfl rfl (by first | rfl | assumption | (simp; done) | (simp_all; done) | omega) (by rfl))))
  ·refine esp K4 ?_
   refine esk rfl ?_
   refine ent_ret ?_
   exact retR1 (.inr rfl) Try.results103 (resr_tmp (res_cv rfl (cvF_nilV (fun _ => rfl) (by first | rfl | assumption | omega | (simp_all; done) | grind))))

theorem Concat_ok (xss : List (List Int)) (hn1 : (catL xss).length ≤ 1000000) : Ctr Try.prog 82 [aSl 1 false aInts xss] (aSl 1 false aInt (catL xss)) := by
 refine ctr_of Try.call82 Try.func82 rfl rfl ?_
 intro w O
 refine ent_len 0 rfl (fun hlen0 => ?_)
 refine esk rfl ?_
 refine esk rfl ?_
 refine ent_seq fun _ K3 => ?_
 refine esr rfl fun _ K4 => ?_
 refine ent_o rfl (ok_len rfl Try.runUnderlying25 rfl) ?_
 refine emm rfl ?_
 refine enk K4 ?_
 refine ent_block ?_
 refine ent_loop (fun (i : Int) => (⟨[(0, aSl 1 false aInts xss), (3, aInt ((catL (xss.take i.toNat)).length : Int)), (9, aSl 1 false aInts xss), (10, aInt (↑xss.length : Int)), (11, aInt i)], []⟩ : St)) (fun (i : Int) => (0 ≤ i) ∧ (i ≤ xss.length)) (fun (i : Int) => (xss.length - i).toNat) 0 ⟨(by first | rfl | assumption | omega | (simp_all; done) | grind), (by first | rfl | assumption | omega | (simp_all; done) | grind)⟩ (ent_rep ⟨rfl, slot_av (av_int (show 0 = ((catL (xss.take (0 : Int).toNat)).length : Int) by first | rfl | simp [catL])), rfl, rfl, slot_av (av_int (show 0 = (0 : Int) by first | rfl | assumption | omega | (simp_all; done) | grind)), trivial⟩ rfl) ?_
 rintro i ⟨h0, h1⟩
 show Ent _ ⟨_, []⟩ _
 have cl := cat_le xss i.toNat
 refine esr rfl fun _ K5 => ?_
 refine ent_o rfl (ok_lss rfl rfl) ?_
 refine enk K5 ?_
 refine ent_seq fun _ K6 => ?_
 refine ent_condD rfl (fun h12 => ?_) (fun h12 => ?_)
 ·have cl2 := cat_le xss (i + 1).toNat
  have cs := cat_succ h0 h12
  have csl : (catL (xss.take (i + 1).toNat)).length = (catL (xss.take i.toNat)).length + (ix [] xss i).length := by rw [cs, List.length_append]
  refine esp K6 ?_
  refine ent_seq fun _ K7 => ?_
  refine ent_block ?_
  refine esr rfl fun _ K8 => ?_
  refine ent_o rfl (ok_index [] sl25 rfl rfl (by first | omega | (simp; omega)) (by first | omega | (simp; omega))) ?_
  refine ent_o rfl (ok_load ti22 rfl) ?_
  refine emm rfl ?_
  refine enk K8 ?_
  refine esr rfl fun _ K9 => ?_
  refine ent_o rfl (ok_len rfl Try.runUnderlying22 rfl) ?_
  refine ent_o rfl (ok_add rfl rfl (by first | omega | (simp; omega)) (by first | omega | (simp; omega))) ?_
  refine emm rfl ?_
  refine enk K9 ?_
  refine esr rfl fun _ K10 => ?_
  refine ent_o rfl (ok_lss rfl rfl) ?_
  refine enk K10 ?_
  refine ent_condD rfl (fun h20 => ?_) (fun h20 => ?_)
  ·omega
  ·refine esp K7 ?_
   refine ent_region ?_
   refine ent_o rfl (ok_add rfl rfl (by first | omega | (simp; omega)) (by first | omega | (simp; omega))) ?_
   refine emm rfl ?_
   refine ent_nil ?_
   refine ent_again (s := (i)) (i + 1) ⟨(by first | rfl | assumption | omega | (simp_all; done) | grind), (by first | rfl | assumption | omega | (simp_all; done) | grind)⟩ (by first | omega | (dsimp only; omega)) (ent_rep ⟨rfl, slot_av (av_int (show ((catL (xss.take i.toNat)).length : Int) + (↑(ix [] xss i).length : Int) = ((catL (xss.take (i + 1).toNat)).length : Int) by rw [cat_succ h0 h12, List.length_append]; omega)), rfl, rfl, rfl, trivial⟩ rfl)
 ·have hall : catL (xss.take i.toNat) = catL xss := by rw [List.take_of_length_le (by omega)]
  have hall2 : (catL (xss.take i.toNat)).length = (catL xss).length := by rw [hall]
  refine ent_exit ?_
  refine ent_k K3 ?_
  refine esr rfl fun _ K11 => ?_
  refine ent_callV [] rfl (Grow_ok ((catL (xss.take i.toNat)).length : Int) (by first | rfl | assumption | omega | (simp_all; done) | grind) (by first | rfl | assumption | omega | (simp_all; done) | grind)) (ArgsA.ok ⟨arg_a rfl (cv_id (sub_lent _)), arg_a rfl (cv_id (sub_lent _)), trivial⟩) (fun r24 c24 => ?_)
  refine emm rfl ?_
  refine enk K11 ?_
  refine ent_seq fun _ K12 => ?_
  refine esr rfl fun _ K13 => ?_
  refine ent_o rfl (ok_len rfl Try.runUnderlying25 rfl) ?_
  refine emm rfl ?_
  refine enk K13 ?_
  refine ent_block ?_
  refine ent_loop (fun (ss : Int × Option Nat × Nat) => match ss with | (i, rr1, cc1) => (⟨[(6, aEx (vec rr1 ((catL (xss.take i.toNat)).length) cc1)), (25, aSl 1 false aInts xss), (26, aInt (↑xss.length : Int)), (27, aInt i)], [oVec rr1 cc1 3 1 false aInt (catL (xss.take i.toNat))]⟩ : St)) (fun (ss : Int × Option Nat × Nat) => match ss with | (i, rr1, cc1) => (0 ≤ i) ∧ (i ≤ xss.length)) (fun (ss : Int × Option Nat × Nat) => match ss with | (i, rr1, cc1) => (xss.length - i).toNat) (0, r24, c24) ⟨(by first | rfl | assumption | omega | (simp_all; done) | grind), (by first | rfl | assumption | omega | (simp_all; done) | grind)⟩ (ent_rep ⟨slot_av (av_vec (congrArg List.length (show catL (xss.take (0 : Int).toNat) = ([] : List Int) by rfl).symm)), rfl, rfl, slot_av (av_int (show 0 = (0 : Int) by first | rfl | assumption | omega | (simp_all; done) | grind)), trivial⟩ (own_cons (own_vec (show catL (xss.take (0 : Int).toNat) = ([] : List Int) by rfl)) (rfl))) ?_
  rintro ⟨i, rr1, cc1⟩ ⟨k0, k1⟩
  show Ent _ ⟨_, [_]⟩ _
  have cl := cat_le xss i.toNat
  refine esr rfl fun _ K14 => ?_
  refine ent_o rfl (ok_lss rfl rfl) ?_
  refine enk K14 ?_
  refine ent_seq fun _ K15 => ?_
  refine ent_condD rfl (fun h28 => ?_) (fun h28 => ?_)
  ·have cl2 := cat_le xss (i + 1).toNat
   have cs := cat_succ k0 h28
   have csl : (catL (xss.take (i + 1).toNat)).length = (catL (xss.take i.toNat)).length + (ix [] xss i).length := by rw [cs, List.length_append]
   refine esp K15 ?_
   refine ent_seq fun _ K16 => ?_
   refine ent_block ?_
   refine esr rfl fun _ K17 => ?_
   refine ent_o rfl (ok_index [] sl25 rfl rfl (by first | omega | (simp; omega)) (by first | omega | (simp; omega))) ?_
   refine ent_o rfl (ok_load ti22 rfl) ?_
   refine emm rfl ?_
   refine enk K17 ?_
   refine ent_region ?_
   refine emm rfl ?_
   refine ent_appendS (k := 0) rfl vt22 rfl rfl (by first | rfl | assumption | (simp; done) | (simp_all; done) | omega) rfl (cv_id sub_refl) (by first | omega | (simp only [List.length_append, List.length_cons, List.length_nil]; omega) | (simp; omega)) (by first | omega | (simp only [List.length_append, List.length_cons, List.length_nil]; omega) | (simp; omega)) (fun r33_1 cr33_1 => ?_)
   refine emm rfl ?_
   refine enk K16 ?_
   refine ent_region ?_
   refine ent_o rfl (ok_add rfl rfl (by first | omega | (simp; omega)) (by first | omega | (simp; omega))) ?_
   refine emm rfl ?_
   refine ent_nil ?_
   refine ent_again (s := (i, rr1, cc1)) (i + 1, r33_1, cr33_1) ⟨(by first | rfl | assumption | omega | (simp_all; done) | grind), (by first | rfl | assumption | omega | (simp_all; done) | grind)⟩ (by first | omega | (dsimp only; omega)) (ent_rep ⟨slot_av (av_vec (congrArg List.length (show catL (xss.take (i + 1).toNat) = (catL (xss.take i.toNat)) ++ (ix [] xss i) by exact cat_succ k0 h28).symm)), rfl, rfl, rfl, trivial⟩ (own_cons (own_vec (show catL (xss.take (i + 1).toNat) = (catL (xss.take i.toNat)) ++ (ix [] xss i) by exact cat_succ k0 h28)) (rfl)))
  ·refine ent_exit ?_
   refine ent_k K12 ?_
   refine esk rfl ?_
   refine ent_ret ?_
   exact retR1 (.inr rfl) Try.results82 (resr_tmp (res_cv rfl (cv_vec (k := 0) (off_x rfl) (by first | rfl | assumption | (simp; done) | (simp_all; done) | omega) (by rw [List.take_of_length_le (by omega)]))))

theorem mBeside_ok (f : Fld) (a b : Mat)  : Ctr Try.prog 58 [aFld f, aMat a, aMat b] (aTup [aMat (besM f a b), aInt (besE f a b)]) := by
 refine ctr_of Try.call58 Try.func58 rfl rfl ?_
 intro w O
 refine ent_lenC 0 2 rfl rfl (fun hlen0_2 => ?_)
 refine ent_lenC 1 1 rfl rfl (fun hlen1_1 => ?_)
 refine ent_lenC 2 1 rfl rfl (fun hlen2_1 => ?_)
 refine esr rfl fun _ K1 => ?_
 refine ent_boxS rfl rfl (AllOne.mem ⟨(one_int _), (one_int _), one_sl, trivial⟩) (fun b3_1 => ?_)
 refine ent_boxS rfl rfl (AllOne.mem ⟨(one_int _), one_sl, trivial⟩) (fun b4_2 => ?_)
 refine ent_boxS rfl rfl (AllOne.mem ⟨(one_int _), one_sl, trivial⟩) (fun b5_3 => ?_)
 refine ent_alloc (z := .agg #[.int .i64 0, .slice none 0 0]) [aInt 0, aEx (.slice none 0 0)] rfl zv27 rfl zc27 (fun b6_4 => ?_)
 refine emm rfl ?_
 refine enk K1 ?_
 refine ent_seq fun _ K2 => ?_
 refine esr rfl fun _ K3 => ?_
 refine ent_o rfl (ok_loadBS (k := 3) ti24 rfl rfl rfl) ?_
 refine ent_o rfl (ok_loadBS (k := 2) ti27 rfl rfl rfl) ?_
 refine ent_o rfl (ok_loadBS (k := 1) ti27 rfl rfl rfl) ?_
 refine ent_o rfl (ok_build2 (enc := aMat) (y1 := (⟨a.cols, a.rows⟩ : Mat)) (y2 := (⟨b.cols, b.rows⟩ : Mat)) vt67 (by decide) rfl rfl (elem_agg (AllOne.mem ⟨(one_int _), one_sl, trivial⟩)) (elem_agg (AllOne.mem ⟨(one_int _), one_sl, trivial⟩)) (by decide)) ?_
 rcases Classical.em (twoErr f a b = 0) with hm0 | hm0
 ·refine ent_o rfl (ok_call (open_ok f [(⟨a.cols, a.rows⟩ : Mat), (⟨b.cols, b.rows⟩ : Mat)] (mErr_zero.1 (twoErr_zero.1 hm0).1).1 (two_mem hm0) (by simp)) rfl) ?_
  refine emm rfl ?_
  refine ent_o rfl (ok_extract rfl rfl) ?_
  refine ent_o rfl (ok_extract rfl rfl) ?_
  refine emm rfl ?_
  refine enk K3 ?_
  refine esr rfl fun _ K4 => ?_
  refine ent_o rfl (ok_neq rfl rfl) ?_
  refine enk K4 ?_
  refine ent_condFP rfl (by decide) ?_
  refine esp K2 ?_
  refine ent_seq fun _ K5 => ?_
  refine ent_seq fun _ K6 => ?_
  have ha0 := (twoErr_zero.1 hm0).1
  have hb0 := (twoErr_zero.1 hm0).2
  have hF := (mErr_zero.1 ha0).1
  have hae := (mErr_zero.1 ha0).2
  have hbe := (mErr_zero.1 hb0).2
  have sa := mat_size hae
  have sb := mat_size hbe
  have hga := mat_good hae
  have hgb := mat_good hbe
  refine ent_region ?_
  refine ent_o rfl (ok_fieldAddrEx Try.runUnderlying27 rfl Try.sizeOf25 (by decide) rfl) ?_
  refine ent_o rfl (ok_loadB (k := 2) Try.isAgg25 rfl rfl rfl) ?_
  refine ent_o rfl (ok_len rfl Try.runUnderlying25 rfl) ?_
  refine ent_o rfl (ok_fieldAddrEx Try.runUnderlying27 rfl Try.sizeOf25 (by decide) rfl) ?_
  refine ent_o rfl (ok_loadB (k := 1) Try.isAgg25 rfl rfl rfl) ?_
  refine ent_o rfl (ok_len rfl Try.runUnderlying25 rfl) ?_
  refine ent_o rfl (ok_neq rfl rfl) ?_
  refine enk K6 ?_
  refine ent_condD rfl (fun h31 => ?_) (fun h31 => ?_)
  ·have hqe : besE f a b = 10 := besE_bad hm0 h31
   have hq0 : besE f a b ≠ 0 := by rw [hqe]; decide
   refine esr rfl fun _ K7 => ?_
   refine ent_o rfl (ok_build st27 (As := [aInt 0, aEx (.slice none 0 0)]) z27 (rfl)) ?_
   refine ent_storeBS (k := 0) Try.sizeOf27 rfl rfl rfl (AllOne.mem ⟨(one_int _), (one_ex rfl), trivial⟩) rfl rfl ?_
   show Ent _ ⟨_, [_, _, _, _]⟩ _
   refine emm rfl ?_
   refine enk K7 ?_
   refine ent_ret ?_
   exact retR2 (.inr rfl) Try.results58 (resr_cell (k := 0) ti27 rfl rfl rfl (cv_agg ⟨cv_int (by first | (rw [besM_no hq0]; rfl) | (rw [besM_ok hqk]; done) | (rw [besM_ok hqk]; rfl) | (rw [besM_ok hqk, show i = a.rows.length by omega])), cv_nil (fun _ => rfl) (by first | (rw [besM_no hq0]; rfl) | (rw [besM_ok hqk]; done) | (rw [besM_ok hqk]; rfl) | (rw [besM_ok hqk, show i = a.rows.length by omega])), trivial⟩)) (resr_tmp (res_cv rfl (cv_int (by first | exact hqk.symm | exact hqe.symm | (rw [hqe]; exact opErr_two f a b)))))
  ·have hrr := Classical.not_not.1 h31
   refine esp K5 ?_
   refine ent_seq fun _ K8 => ?_
   refine esr rfl fun _ K9 => ?_
   refine ent_o rfl (ok_fieldAddrEx Try.runUnderlying27 rfl Try.sizeOf3 (by decide) rfl) ?_
   refine ent_o rfl (ok_loadB (k := 2) Try.isAgg3 rfl rfl rfl) ?_
   refine ent_o rfl (ok_fieldAddrEx Try.runUnderlying27 rfl Try.sizeOf3 (by decide) rfl) ?_
   refine ent_o rfl (ok_loadB (k := 1) Try.isAgg3 rfl rfl rfl) ?_
   refine ent_o rfl (ok_add rfl rfl (by first | omega | (simp; omega)) (by first | omega | (simp; omega))) ?_
   refine ent_o rfl (ok_gtr rfl rfl) ?_
   refine enk K9 ?_
   refine ent_condD rfl (fun h38 => ?_) (fun h38 => ?_)
   ·have hqe : besE f a b = 8 := besE_big hm0 h31 h38
    have hq0 : besE f a b ≠ 0 := by rw [hqe]; decide
    refine esr rfl fun _ K10 => ?_
    refine ent_o rfl (ok_build st27 (As := [aInt 0, aEx (.slice none 0 0)]) z27 (rfl)) ?_
    refine ent_storeBS (k := 0) Try.sizeOf27 rfl rfl rfl (AllOne.mem ⟨(one_int _), (one_ex rfl), trivial⟩) rfl rfl ?_
    show Ent _ ⟨_, [_, _, _, _]⟩ _
    refine emm rfl ?_
    refine enk K10 ?_
    refine ent_ret ?_
    exact retR2 (.inr rfl) Try.results58 (resr_cell (k := 0) ti27 rfl rfl rfl (cv_agg ⟨cv_int (by first | (rw [besM_no hq0]; rfl) | (rw [besM_ok hqk]; done) | (rw [besM_ok hqk]; rfl) | (rw [besM_ok hqk, show i = a.rows.length by omega])), cv_nil (fun _ => rfl) (by first | (rw [besM_no hq0]; rfl) | (rw [besM_ok hqk]; done) | (rw [besM_ok hqk]; rfl) | (rw [besM_ok hqk, show i = a.rows.length by omega])), trivial⟩)) (resr_tmp (res_cv rfl (cv_int (by first | exact hqk.symm | exact hqe.symm | (rw [hqe]; exact opErr_two f a b)))))
   ·have hqk : besE f a b = 0 := besE_ok hm0 h31 h38
    refine esp K8 ?_
    refine esr rfl fun _ K11 => ?_
    refine ent_o rfl (ok_fieldAddrEx Try.runUnderlying27 rfl Try.sizeOf3 (by decide) rfl) ?_
    refine ent_o rfl (ok_loadB (k := 2) Try.isAgg3 rfl rfl rfl) ?_
    refine ent_o rfl (ok_fieldAddrEx Try.runUnderlying27 rfl Try.sizeOf3 (by decide) rfl) ?_
    refine ent_o rfl (ok_loadB (k := 1) Try.isAgg3 rfl rfl rfl) ?_
    refine ent_o rfl (ok_add rfl rfl (by first | omega | (simp; omega)) (by first | omega | (simp; omega))) ?_
    refine ent_o rfl (ok_build st27 (As := [aInt 0, aEx (.slice none 0 0)]) z27 (⟨0, 1, rfl, .inl ⟨rfl, _, rfl, (one_int _), rfl, rfl⟩⟩)) ?_
    refine ent_alloc (z := .agg #[.int .i64 0, .slice none 0 0]) [aInt 0, aEx (.slice none 0 0)] rfl zv27 rfl zc27 (fun b10_5 => ?_)
    refine ent_storeBS (k := 0) Try.sizeOf27 rfl rfl rfl (AllOne.mem ⟨(one_int _), (one_ex rfl), trivial⟩) rfl rfl ?_
    show Ent _ ⟨_, [_, _, _, _, _]⟩ _
    refine enk K11 ?_
    refine ent_seq fun _ K12 => ?_
    refine esr rfl fun _ K13 => ?_
    refine ent_o rfl (ok_fieldAddrEx Try.runUnderlying27 rfl Try.sizeOf25 (by decide) rfl) ?_
    refine ent_o rfl (ok_loadB (k := 3) Try.isAgg25 rfl rfl rfl) ?_
    refine ent_o rfl (ok_len rfl Try.runUnderlying25 rfl) ?_
    refine emm rfl ?_
    refine enk K13 ?_
    refine ent_block ?_
    refine ent_open 22 1 false aInts (fun _ => rfl) ?_
    refine ent_loop (fun (ss : Int × Option Nat × Nat) => match ss with | (i, rr7, cc7) => (⟨[(5, aEx (.pointer (some ⟨b5_3, 0, none⟩))), (6, aEx (.pointer (some ⟨b6_4, 0, none⟩))), (10, aEx (.pointer (some ⟨b10_5, 0, none⟩))), (47, aSl 1 false aInts a.rows), (48, aInt (↑a.rows.length : Int)), (49, aInt i)], [oVec rr7 cc7 22 1 false aInts (mapR (fun k => ix [] a.rows k ++ ix [] b.rows k) i), oBox b10_5 27 [aInt (a.cols + b.cols), aEx (vec rr7 ((mapR (fun k => ix [] a.rows k ++ ix [] b.rows k) i).length) cc7)], oBox b6_4 27 [aInt 0, aEx (.slice none 0 0)], oBox b5_3 27 [aInt b.cols, aSl 1 false aInts b.rows], oBox b4_2 27 [aInt a.cols, aSl 1 false aInts a.rows], oBox b3_1 24 [aInt f.P, aInt f.M, aSl 1 false aInt f.mod]]⟩ : St)) (fun (ss : Int × Option Nat × Nat) => match ss with | (i, rr7, cc7) => (0 ≤ i) ∧ (i ≤ a.rows.length)) (fun (ss : Int × Option Nat × Nat) => match ss with | (i, rr7, cc7) => (a.rows.length - i).toNat) (0, none, 0) ⟨(by first | rfl | assumption | omega | (simp_all; done) | grind), (by first | rfl | assumption | omega | (simp_all; done) | grind)⟩ (ent_rep ⟨rfl, rfl, rfl, rfl, rfl, slot_av (av_int (show 0 = (0 : Int) by first | rfl | assumption | omega | (simp_all; done) | grind)), trivial⟩ (own_cons (own_vec (show mapR (fun k => ix [] a.rows k ++ ix [] b.rows k) (0 : Int) = [] by first | rfl | simp [mapR_zero])) (own_cons (own_box (av_cons rfl (av_cons ((by first | rfl | simp [mapR_zero])) (rfl)))) (rfl)))) ?_
    rintro ⟨i, rr7, cc7⟩ ⟨h0, h1⟩
    show Ent _ ⟨_, [_, _, _, _, _, _]⟩ _
    have lf := length_mapR (fun k => ix [] a.rows k ++ ix [] b.rows k) i
    refine esr rfl fun _ K14 => ?_
    refine ent_o rfl (ok_lss rfl rfl) ?_
    refine enk K14 ?_
    refine ent_seq fun _ K15 => ?_
    refine ent_condD rfl (fun h50 => ?_) (fun h50 => ?_)
    ·have hra := row_len hae h0 h50
     have hrb := row_len hbe h0 (by omega)
     refine esp K15 ?_
     refine ent_seq fun _ K16 => ?_
     refine ent_block ?_
     refine esr rfl fun _ K17 => ?_
     refine ent_o rfl (ok_index [] sl25 rfl rfl (by first | omega | (simp; omega)) (by first | omega | (simp; omega))) ?_
     refine ent_o rfl (ok_load ti22 rfl) ?_
     refine emm rfl ?_
     refine enk K17 ?_
     refine ent_draw 11 mixed (by kernel_rfl) (by kernel_rfl) (by kernel_rfl) ?_
     refine dw_o rfl (ok_fieldAddrEx Try.runUnderlying27 rfl Try.sizeOf25 (by decide) rfl) ?_
     refine dw_o rfl (ok_loadB (k := 1) Try.isAgg25 rfl rfl rfl) ?_
     refine dw_o rfl (ok_move rfl) ?_
     refine dw_o rfl (ok_fieldAddrEx Try.runUnderlying27 rfl Try.sizeOf25 (by decide) rfl) ?_
     refine dw_o rfl (ok_loadB (k := 3) Try.isAgg25 rfl rfl rfl) ?_
     refine dw_o rfl (ok_move rfl) ?_
     refine dw_o rfl (ok_index [] sl25 rfl rfl (by first | omega | (simp; omega)) (by first | omega | (simp; omega))) ?_
     refine dw_o rfl (ok_load ti22 rfl) ?_
     refine dw_o rfl (ok_buildNF aInts [ix [] a.rows i, ix [] b.rows i] vt25 (by decide) rfl (⟨0, 1, rfl, .inl ⟨rfl, _, rfl, one_sl, rfl, ⟨1, 1, rfl, .inl ⟨rfl, _, rfl, one_sl, rfl, rfl⟩⟩⟩⟩) rfl) ?_
     refine dw_o rfl (ok_callA (Concat_ok [ix [] a.rows i, ix [] b.rows i] (by rw [cat_two, List.length_append]; omega)) ⟨arg_a rfl (cv_full sub_refl), trivial⟩) ?_
     refine dw_o rfl (ok_build1 (enc := aInts) (y := catL [ix [] a.rows i, ix [] b.rows i]) vt25 rfl (elem_one one_sl) (by decide)) ?_
     refine dw_nil ?_
     refine ent_appendS (k := 0) rfl vt25 rfl rfl (by first | rfl | assumption | (simp; done) | (simp_all; done) | omega) rfl (cv_id sub_refl) (by first | omega | (simp only [List.length_append, List.length_cons, List.length_nil]; omega) | (simp; omega)) (by first | omega | (simp only [List.length_append, List.length_cons, List.length_nil]; omega) | (simp; omega)) (fun r65_7 cr65_7 => ?_)
     refine ent_o rfl (ok_fieldAddrEx Try.runUnderlying27 rfl Try.sizeOf25 (by decide) rfl) ?_
     refine ent_storeB (k := 1) Try.sizeOf25 rfl rfl rfl (one_ex rfl) rfl ?_
     refine enk K16 ?_
     refine ent_region ?_
     refine ent_o rfl (ok_add rfl rfl (by first | omega | (simp; omega)) (by first | omega | (simp; omega))) ?_
     refine emm rfl ?_
     refine ent_nil ?_
     refine ent_again (s := (i, rr7, cc7)) (i + 1, r65_7, cr65_7) ⟨(by first | rfl | assumption | omega | (simp_all; done) | grind), (by first | rfl | assumption | omega | (simp_all; done) | grind)⟩ (by first | omega | (dsimp only; omega)) (ent_rep ⟨rfl, rfl, rfl, rfl, rfl, rfl, trivial⟩ (own_cons (own_vec (show mapR (fun k => ix [] a.rows k ++ ix [] b.rows k) (i + 1) = (mapR (fun k => ix [] a.rows k ++ ix [] b.rows k) i) ++ [catL [ix [] a.rows i, ix [] b.rows i]] by rw [cat_two]; exact mapR_succ _ h0)) (own_cons (own_box (av_cons rfl (av_cons (av_vec (congrArg List.length (show mapR (fun k => ix [] a.rows k ++ ix [] b.rows k) (i + 1) = (mapR (fun k => ix [] a.rows k ++ ix [] b.rows k) i) ++ [catL [ix [] a.rows i, ix [] b.rows i]] by rw [cat_two]; exact mapR_succ _ h0))) (rfl)))) (rfl))))
    ·refine ent_exit ?_
     refine ent_k K12 ?_
     refine esr rfl fun _ K18 => ?_
     refine ent_o rfl (ok_loadBS (k := 1) ti27 rfl rfl rfl) ?_
     refine ent_storeBS (k := 2) Try.sizeOf27 rfl rfl rfl (AllOne.mem ⟨(one_int _), (one_ex rfl), trivial⟩) rfl rfl ?_
     show Ent _ ⟨_, [_, _, _, _, _, _]⟩ _
     refine emm rfl ?_
     refine enk K18 ?_
     refine ent_ret ?_
     exact retR2 (.inr rfl) Try.results58 (resr_cell (k := 2) ti27 rfl rfl rfl (cv_agg ⟨cv_int (by first | (rw [besM_no hq0]; rfl) | (rw [besM_ok hqk]; done) | (rw [besM_ok hqk]; rfl) | (rw [besM_ok hqk, show i = a.rows.length by omega])), cv_vec (k := 0) (off_x rfl) (by first | rfl | assumption | (simp; done) | (simp_all; done) | omega) (by first | (rw [besM_no hq0]; rfl) | (rw [besM_ok hqk]; done) | (rw [besM_ok hqk]; rfl) | (rw [besM_ok hqk, show i = a.rows.length by omega])), trivial⟩)) (resr_tmp (res_cv rfl (cv_int (by first | exact hqk.symm | exact hqe.symm | (rw [hqe]; exact opErr_two f a b)))))
 ·refine ent_o rfl (ok_call (open_no f [(⟨a.cols, a.rows⟩ : Mat), (⟨b.cols, b.rows⟩ : Mat)] (by rw [opErr_two]; exact hm0)) rfl) ?_
  refine emm rfl ?_
  refine ent_o rfl (ok_extract rfl rfl) ?_
  refine ent_o rfl (ok_extract rfl rfl) ?_
  refine emm rfl ?_
  refine enk K3 ?_
  refine esr rfl fun _ K19 => ?_
  refine ent_o rfl (ok_neq rfl rfl) ?_
  refine enk K19 ?_
  refine ent_condD rfl (fun h22 => ?_) (fun h22 => ?_)
  ·have hqe : besE f a b = twoErr f a b := besE_no hm0
   have hq0 : besE f a b ≠ 0 := by rw [hqe]; exact hm0
   refine esr rfl fun _ K20 => ?_
   refine ent_o rfl (ok_build st27 (As := [aInt 0, aEx (.slice none 0 0)]) z27 (rfl)) ?_
   refine emm rfl ?_
   refine ent_storeBS (k := 0) Try.sizeOf27 rfl rfl rfl (AllOne.mem ⟨(one_int _), (one_ex rfl), trivial⟩) rfl rfl ?_
   show Ent _ ⟨_, [_, _, _, _]⟩ _
   refine emm rfl ?_
   refine enk K20 ?_
   refine ent_ret ?_
   exact retR2 (.inr rfl) Try.results58 (resr_cell (k := 0) ti27 rfl rfl rfl (cv_agg ⟨cv_int (by first | (rw [besM_no hq0]; rfl) | (rw [besM_ok hqk]; done) | (rw [besM_ok hqk]; rfl) | (rw [besM_ok hqk, show i = a.rows.length by omega])), cv_nil (fun _ => rfl) (by first | (rw [besM_no hq0]; rfl) | (rw [besM_ok hqk]; done) | (rw [besM_ok hqk]; rfl) | (rw [besM_ok hqk, show i = a.rows.length by omega])), trivial⟩)) (resr_tmp (res_cv rfl (cv_int (by first | exact hqk.symm | exact hqe.symm | (rw [hqe]; exact opErr_two f a b)))))
  ·exact absurd (Classical.not_not.1 h22) (by rw [opErr_two]; exact hm0)

theorem rBeside_ok (f : Fld) (a b : Mat)  : Ctr Try.prog 59 [aFld f, aMat a, aMat b] (aTup [aMat (besM f a b), aInt (besE f a b)]) := by
 refine ctr_of Try.call59 Try.func59 rfl rfl ?_
 intro w O
 refine ent_lenC 0 2 rfl rfl (fun hlen0_2 => ?_)
 refine ent_lenC 1 1 rfl rfl (fun hlen1_1 => ?_)
 refine ent_lenC 2 1 rfl rfl (fun hlen2_1 => ?_)
 refine esr rfl fun _ K1 => ?_
 refine ent_boxS rfl rfl (AllOne.mem ⟨(one_int _), (one_int _), one_sl, trivial⟩) (fun b3_1 => ?_)
 refine ent_boxS rfl rfl (AllOne.mem ⟨(one_int _), one_sl, trivial⟩) (fun b4_2 => ?_)
 refine ent_boxS rfl rfl (AllOne.mem ⟨(one_int _), one_sl, trivial⟩) (fun b5_3 => ?_)
 refine ent_alloc (z := .agg #[.int .i64 0, .slice none 0 0]) [aInt 0, aEx (.slice none 0 0)] rfl zv27 rfl zc27 (fun b6_4 => ?_)
 refine emm rfl ?_
 refine enk K1 ?_
 refine esr rfl fun _ K2 => ?_
 refine ent_o rfl (ok_loadBS (k := 3) ti24 rfl rfl rfl) ?_
 refine ent_o rfl (ok_loadBS (k := 2) ti27 rfl rfl rfl) ?_
 refine ent_o rfl (ok_loadBS (k := 1) ti27 rfl rfl rfl) ?_
 refine ent_o rfl (ok_call (rtwo_ok f a b) rfl) ?_
 refine emm rfl ?_
 refine enk K2 ?_
 refine ent_seq fun _ K3 => ?_
 refine esr rfl fun _ K4 => ?_
 refine ent_o rfl (ok_neq rfl rfl) ?_
 refine enk K4 ?_
 refine ent_condD rfl (fun h16 => ?_) (fun h16 => ?_)
 ·have hqe : besE f a b = twoErr f a b := besE_no h16
  have hq0 : besE f a b ≠ 0 := by rw [hqe]; exact h16
  refine esr rfl fun _ K5 => ?_
  refine ent_o rfl (ok_build st27 (As := [aInt 0, aEx (.slice none 0 0)]) z27 (rfl)) ?_
  refine emm rfl ?_
  refine ent_storeBS (k := 0) Try.sizeOf27 rfl rfl rfl (AllOne.mem ⟨(one_int _), (one_ex rfl), trivial⟩) rfl rfl ?_
  show Ent _ ⟨_, [_, _, _, _]⟩ _
  refine emm rfl ?_
  refine enk K5 ?_
  refine ent_ret ?_
  exact retR2 (.inr rfl) Try.results59 (resr_cell (k := 0) ti27 rfl rfl rfl (cv_agg ⟨cv_int (by first | (rw [besM_no hq0]; rfl) | (rw [besM_ok hqk]; done) | (rw [besM_ok hqk]; rfl) | (rw [besM_ok hqk, show i = a.rows.length by omega])), cv_nil (fun _ => rfl) (by first | (rw [besM_no hq0]; rfl) | (rw [besM_ok hqk]; done) | (rw [besM_ok hqk]; rfl) | (rw [besM_ok hqk, show i = a.rows.length by omega])), trivial⟩)) (resr_tmp (res_cv rfl (cv_int (by first | exact hqk.symm | exact hqe.symm | (rw [hqe]; exact opErr_two f a b)))))
 ·have hm0 := Classical.not_not.1 h16
  have ha0 := (twoErr_zero.1 hm0).1
  have hb0 := (twoErr_zero.1 hm0).2
  have hF := (mErr_zero.1 ha0).1
  have hae := (mErr_zero.1 ha0).2
  have hbe := (mErr_zero.1 hb0).2
  have sa := mat_size hae
  have sb := mat_size hbe
  have hga := mat_good hae
  have hgb := mat_good hbe
  refine esp K3 ?_
  refine ent_seq fun _ K6 => ?_
  refine esr rfl fun _ K7 => ?_
  refine ent_o rfl (ok_fieldAddrEx Try.runUnderlying27 rfl Try.sizeOf25 (by decide) rfl) ?_
  refine ent_o rfl (ok_loadB (k := 2) Try.isAgg25 rfl rfl rfl) ?_
  refine ent_o rfl (ok_len rfl Try.runUnderlying25 rfl) ?_
  refine ent_o rfl (ok_fieldAddrEx Try.runUnderlying27 rfl Try.sizeOf25 (by decide) rfl) ?_
  refine ent_o rfl (ok_loadB (k := 1) Try.isAgg25 rfl rfl rfl) ?_
  refine ent_o rfl (ok_len rfl Try.runUnderlying25 rfl) ?_
  refine ent_o rfl (ok_neq rfl rfl) ?_
  refine enk K7 ?_
  refine ent_condD rfl (fun h25 => ?_) (fun h25 => ?_)
  ·have hqe : besE f a b = 10 := besE_bad hm0 h25
   have hq0 : besE f a b ≠ 0 := by rw [hqe]; decide
   refine esr rfl fun _ K8 => ?_
   refine ent_o rfl (ok_build st27 (As := [aInt 0, aEx (.slice none 0 0)]) z27 (rfl)) ?_
   refine ent_storeBS (k := 0) Try.sizeOf27 rfl rfl rfl (AllOne.mem ⟨(one_int _), (one_ex rfl), trivial⟩) rfl rfl ?_
   show Ent _ ⟨_, [_, _, _, _]⟩ _
   refine emm rfl ?_
   refine enk K8 ?_
   refine ent_ret ?_
   exact retR2 (.inr rfl) Try.results59 (resr_cell (k := 0) ti27 rfl rfl rfl (cv_agg ⟨cv_int (by first | (rw [besM_no hq0]; rfl) | (rw [besM_ok hqk]; done) | (rw [besM_ok hqk]; rfl) | (rw [besM_ok hqk, show i = a.rows.length by omega])), cv_nil (fun _ => rfl) (by first | (rw [besM_no hq0]; rfl) | (rw [besM_ok hqk]; done) | (rw [besM_ok hqk]; rfl) | (rw [besM_ok hqk, show i = a.rows.length by omega])), trivial⟩)) (resr_tmp (res_cv rfl (cv_int (by first | exact hqk.symm | exact hqe.symm | (rw [hqe]; exact opErr_two f a b)))))
  ·have hrr := Classical.not_not.1 h25
   refine esp K6 ?_
   refine ent_seq fun _ K9 => ?_
   refine esr rfl fun _ K10 => ?_
   refine ent_o rfl (ok_fieldAddrEx Try.runUnderlying27 rfl Try.sizeOf3 (by decide) rfl) ?_
   refine ent_o rfl (ok_loadB (k := 2) Try.isAgg3 rfl rfl rfl) ?_
   refine ent_o rfl (ok_fieldAddrEx Try.runUnderlying27 rfl Try.sizeOf3 (by decide) rfl) ?_
   refine ent_o rfl (ok_loadB (k := 1) Try.isAgg3 rfl rfl rfl) ?_
   refine ent_o rfl (ok_add rfl rfl (by first | omega | (simp; omega)) (by first | omega | (simp; omega))) ?_
   refine ent_o rfl (ok_gtr rfl rfl) ?_
   refine enk K10 ?_
   refine ent_condD rfl (fun h32 => ?_) (fun h32 => ?_)
   ·have hqe : besE f a b = 8 := besE_big hm0 h25 h32
    have hq0 : besE f a b ≠ 0 := by rw [hqe]; decide
    refine esr rfl fun _ K11 => ?_
    refine ent_o rfl (ok_build st27 (As := [aInt 0, aEx (.slice none 0 0)]) z27 (rfl)) ?_
    refine ent_storeBS (k := 0) Try.sizeOf27 rfl rfl rfl (AllOne.mem ⟨(one_int _), (one_ex rfl), trivial⟩) rfl rfl ?_
    show Ent _ ⟨_, [_, _, _, _]⟩ _
    refine emm rfl ?_
    refine enk K11 ?_
    refine ent_ret ?_
    exact retR2 (.inr rfl) Try.results59 (resr_cell (k := 0) ti27 rfl rfl rfl (cv_agg ⟨cv_int (by first | (rw [besM_no hq0]; rfl) | (rw [besM_ok hqk]; done) | (rw [besM_ok hqk]; rfl) | (rw [besM_ok hqk, show i = a.rows.length by omega])), cv_nil (fun _ => rfl) (by first | (rw [besM_no hq0]; rfl) | (rw [besM_ok hqk]; done) | (rw [besM_ok hqk]; rfl) | (rw [besM_ok hqk, show i = a.rows.length by omega])), trivial⟩)) (resr_tmp (res_cv rfl (cv_int (by first | exact hqk.symm | exact hqe.symm | (rw [hqe]; exact opErr_two f a b)))))
   ·have hqk : besE f a b = 0 := besE_ok hm0 h25 h32
    refine esp K9 ?_
    refine esr rfl fun _ K12 => ?_
    refine ent_o rfl (ok_fieldAddrEx Try.runUnderlying27 rfl Try.sizeOf3 (by decide) rfl) ?_
    refine ent_o rfl (ok_loadB (k := 2) Try.isAgg3 rfl rfl rfl) ?_
    refine ent_o rfl (ok_fieldAddrEx Try.runUnderlying27 rfl Try.sizeOf3 (by decide) rfl) ?_
    refine ent_o rfl (ok_loadB (k := 1) Try.isAgg3 rfl rfl rfl) ?_
    refine ent_o rfl (ok_add rfl rfl (by first | omega | (simp; omega)) (by first | omega | (simp; omega))) ?_
    refine ent_o rfl (ok_build st27 (As := [aInt 0, aEx (.slice none 0 0)]) z27 (⟨0, 1, rfl, .inl ⟨rfl, _, rfl, (one_int _), rfl, rfl⟩⟩)) ?_
    refine ent_alloc (z := .agg #[.int .i64 0, .slice none 0 0]) [aInt 0, aEx (.slice none 0 0)] rfl zv27 rfl zc27 (fun b9_5 => ?_)
    refine ent_storeBS (k := 0) Try.sizeOf27 rfl rfl rfl (AllOne.mem ⟨(one_int _), (one_ex rfl), trivial⟩) rfl rfl ?_
    show Ent _ ⟨_, [_, _, _, _, _]⟩ _
    refine enk K12 ?_
    refine ent_seq fun _ K13 => ?_
    refine esk rfl ?_
    refine ent_block ?_
    refine ent_open 22 1 false aInts (fun _ => rfl) ?_
    refine ent_loop (fun (ss : Int × Option Nat × Nat) => match ss with | (i, rr7, cc7) => (⟨[(4, aEx (.pointer (some ⟨b4_2, 0, none⟩))), (5, aEx (.pointer (some ⟨b5_3, 0, none⟩))), (6, aEx (.pointer (some ⟨b6_4, 0, none⟩))), (9, aEx (.pointer (some ⟨b9_5, 0, none⟩))), (10, aInt i)], [oVec rr7 cc7 22 1 false aInts (mapR (fun k => ix [] a.rows k ++ ix [] b.rows k) i), oBox b9_5 27 [aInt (a.cols + b.cols), aEx (vec rr7 ((mapR (fun k => ix [] a.rows k ++ ix [] b.rows k) i).length) cc7)], oBox b6_4 27 [aInt 0, aEx (.slice none 0 0)], oBox b5_3 27 [aInt b.cols, aSl 1 false aInts b.rows], oBox b4_2 27 [aInt a.cols, aSl 1 false aInts a.rows], oBox b3_1 24 [aInt f.P, aInt f.M, aSl 1 false aInt f.mod]]⟩ : St)) (fun (ss : Int × Option Nat × Nat) => match ss with | (i, rr7, cc7) => (0 ≤ i) ∧ (i ≤ a.rows.length)) (fun (ss : Int × Option Nat × Nat) => match ss with | (i, rr7, cc7) => (a.rows.length - i).toNat) (0, none, 0) ⟨(by first | rfl | assumption | omega | (simp_all; done) | grind), (by first | rfl | assumption | omega | (simp_all; done) | grind)⟩ (ent_rep ⟨rfl, rfl, rfl, rfl, slot_av (av_int (show 0 = (0 : Int) by first | rfl | assumption | omega | (simp_all; done) | grind)), trivial⟩ (own_cons (own_vec (show mapR (fun k => ix [] a.rows k ++ ix [] b.rows k) (0 : Int) = [] by first | rfl | simp [mapR_zero])) (own_cons (own_box (av_cons rfl (av_cons ((by first | rfl | simp [mapR_zero])) (rfl)))) (rfl)))) ?_
    rintro ⟨i, rr7, cc7⟩ ⟨h0, h1⟩
    show Ent _ ⟨_, [_, _, _, _, _, _]⟩ _
    have lf := length_mapR (fun k => ix [] a.rows k ++ ix [] b.rows k) i
    refine ent_seq fun _ K15 => ?_
    refine esr rfl fun _ K16 => ?_
    refine ent_o rfl (ok_fieldAddrEx Try.runUnderlying27 rfl Try.sizeOf25 (by decide) rfl) ?_
    refine ent_o rfl (ok_loadB (k := 4) Try.isAgg25 rfl rfl rfl) ?_
    refine ent_o rfl (ok_len rfl Try.runUnderlying25 rfl) ?_
    refine ent_o rfl (ok_lss rfl rfl) ?_
    refine enk K16 ?_
    refine ent_condD rfl (fun h44 => ?_) (fun h44 => ?_)
    ·have hra := row_len hae h0 h44
     have hrb := row_len hbe h0 (by omega)
     refine esp K15 ?_
     refine ent_seq fun _ K17 => ?_
     refine ent_block ?_
     rcases Nat.eq_zero_or_pos (List.length (ix [] a.rows i)) with hz55 | hz55
     ·have hx55 := List.eq_nil_of_length_eq_zero hz55
      refine ent_draw 16 mixed (by kernel_rfl) (by kernel_rfl) (by kernel_rfl) ?_
      refine dw_o rfl (ok_fieldAddrEx Try.runUnderlying27 rfl Try.sizeOf25 (by decide) rfl) ?_
      refine dw_o rfl (ok_loadB (k := 1) Try.isAgg25 rfl rfl rfl) ?_
      refine dw_o rfl (ok_build0 vt22) ?_
      refine dw_o rfl (ok_fieldAddrEx Try.runUnderlying27 rfl Try.sizeOf25 (by decide) rfl) ?_
      refine dw_o rfl (ok_loadB (k := 4) Try.isAgg25 rfl rfl rfl) ?_
      refine dw_o rfl (ok_move rfl) ?_
      refine dw_o rfl (ok_index [] sl25 rfl rfl (by first | omega | (simp; omega)) (by first | omega | (simp; omega))) ?_
      refine dw_o rfl (ok_load ti22 rfl) ?_
      refine dw_o rfl (ok_append00 vt22 rfl rfl (cv_id sub_refl) hx55) ?_
      refine dw_o rfl (ok_fieldAddrEx Try.runUnderlying27 rfl Try.sizeOf25 (by decide) rfl) ?_
      refine dw_o rfl (ok_loadB (k := 3) Try.isAgg25 rfl rfl rfl) ?_
      refine dw_o rfl (ok_move rfl) ?_
      refine dw_o rfl (ok_index [] sl25 rfl rfl (by first | omega | (simp; omega)) (by first | omega | (simp; omega))) ?_
      refine dw_o rfl (ok_load ti22 rfl) ?_
      refine dw_o rfl (OpOK.eqv (C := aSl 1 false aInt ((ix [] a.rows i) ++ (ix [] b.rows i))) (ok_append0 vt22 rfl rfl (cv_id sub_refl) (by first | omega | (simp; omega)) (by first | omega | (simp; omega))) (by rw [hx55]; rfl)) ?_
      refine dw_o rfl (ok_build1 (enc := aInts) (y := (ix [] a.rows i) ++ (ix [] b.rows i)) vt25 rfl (elem_one one_sl) (by decide)) ?_
      refine dw_nil ?_
      refine ent_appendS (k := 0) rfl vt25 rfl rfl (by first | rfl | assumption | (simp; done) | (simp_all; done) | omega) rfl (cv_id sub_refl) (by first | omega | (simp only [List.length_append, List.length_cons, List.length_nil]; omega) | (simp; omega)) (by first | omega | (simp only [List.length_append, List.length_cons, List.length_nil]; omega) | (simp; omega)) (fun r63_8 cr63_8 => ?_)
      refine ent_o rfl (ok_fieldAddrEx Try.runUnderlying27 rfl Try.sizeOf25 (by decide) rfl) ?_
      refine ent_storeB (k := 1) Try.sizeOf25 rfl rfl rfl (one_ex rfl) rfl ?_
      refine enk K17 ?_
      refine ent_region ?_
      refine emm rfl ?_
      refine ent_o rfl (ok_add rfl rfl (by first | omega | (simp; omega)) (by first | omega | (simp; omega))) ?_
      refine emm rfl ?_
      refine ent_nil ?_
      refine ent_again (s := (i, rr7, cc7)) (i + 1, r63_8, cr63_8) ⟨(by first | rfl | assumption | omega | (simp_all; done) | grind), (by first | rfl | assumption | omega | (simp_all; done) | grind)⟩ (by first | omega | (dsimp only; omega)) (ent_rep ⟨rfl, rfl, rfl, rfl, rfl, trivial⟩ (own_cons (own_vec (show mapR (fun k => ix [] a.rows k ++ ix [] b.rows k) (i + 1) = (mapR (fun k => ix [] a.rows k ++ ix [] b.rows k) i) ++ [(ix [] a.rows i) ++ (ix [] b.rows i)] by exact mapR_succ _ h0)) (own_cons (own_box (av_cons rfl (av_cons (av_vec (congrArg List.length (show mapR (fun k => ix [] a.rows k ++ ix [] b.rows k) (i + 1) = (mapR (fun k => ix [] a.rows k ++ ix [] b.rows k) i) ++ [(ix [] a.rows i) ++ (ix [] b.rows i)] by exact mapR_succ _ h0))) (rfl)))) (rfl))))
     refine ent_drawA3 (enc := aInt) (xs := ix [] a.rows i) (ys := ix [] b.rows i) (B1 := aSl 1 false aInt (ix [] a.rows i)) (B2 := aSl 1 false aInt (ix [] b.rows i)) 16 [] 8 14 [(47, aEx (.pointer (some ⟨b9_5, 1, none⟩))), (48, aEx (vec rr7 ((mapR (fun k => ix [] a.rows k ++ ix [] b.rows k) i).length) cc7)), (49, aNil0), (50, aEx (.pointer (some ⟨b4_2, 1, none⟩))), (51, aSl 1 false aInts a.rows), (52, aInt i), (53, aAt 1 false (aSl 1 false aInt (ix [] a.rows i))), (54, aSl 1 false aInt (ix [] a.rows i)), (55, aNo), (56, aEx (.pointer (some ⟨b5_3, 1, none⟩))), (57, aSl 1 false aInts b.rows), (58, aInt i), (59, aAt 1 false (aSl 1 false aInt (ix [] b.rows i))), (60, aSl 1 false aInt (ix [] b.rows i)), (61, aNo), (62, aNo)] (fun b3_8 c3_8 => [(47, aEx (.pointer (some ⟨b9_5, 1, none⟩))), (48, aEx (vec rr7 ((mapR (fun k => ix [] a.rows k ++ ix [] b.rows k) i).length) cc7)), (49, aNil0), (50, aEx (.pointer (some ⟨b4_2, 1, none⟩))), (51, aSl 1 false aInts a.rows), (52, aInt i), (53, aAt 1 false (aSl 1 false aInt (ix [] a.rows i))), (54, aSl 1 false aInt (ix [] a.rows i)), (55, aEx (vec (some b3_8) ((ix [] a.rows i).length) c3_8)), (56, aEx (.pointer (some ⟨b5_3, 1, none⟩))), (57, aSl 1 false aInts b.rows), (58, aInt i), (59, aAt 1 false (aSl 1 false aInt (ix [] b.rows i))), (60, aSl 1 false aInt (ix [] b.rows i)), (61, aNo), (62, aNo)]) [(47, aEx (.pointer (some ⟨b9_5, 1, none⟩))), (48, aEx (vec rr7 ((mapR (fun k => ix [] a.rows k ++ ix [] b.rows k) i).length) cc7)), (49, aNil0), (50, aEx (.pointer (some ⟨b4_2, 1, none⟩))), (51, aSl 1 false aInts a.rows), (52, aInt i), (53, aAt 1 false (aSl 1 false aInt (ix [] a.rows i))), (54, aSl 1 false aInt (ix [] a.rows i)), (55, aAny), (56, aEx (.pointer (some ⟨b5_3, 1, none⟩))), (57, aSl 1 false aInts b.rows), (58, aInt i), (59, aAt 1 false (aSl 1 false aInt (ix [] b.rows i))), (60, aSl 1 false aInt (ix [] b.rows i)), (61, aSl 1 false aInt ((ix [] a.rows i) ++ (ix [] b.rows i))), (62, aSl 1 false aInts [(ix [] a.rows i) ++ (ix [] b.rows i)])] mixed (by kernel_rfl) (by kernel_rfl) (by kernel_rfl) (by kernel_rfl) (by kernel_rfl) (fun _ _ _ _ _ h => h) vt22 rfl (by kernel_rfl) (by kernel_rfl) rfl (by kernel_rfl) (by kernel_rfl) (by kernel_rfl) (fun _ _ => one_int _) (fun _ _ => one_int _) (by first | omega | (simp; omega)) (by first | omega | (simp; omega)) (by first | omega | (simp; omega)) (by kernel_rfl) (fun _ _ => by kernel_rfl) (by kernel_rfl) rfl rfl (cv_id sub_refl) (fun _ _ => rfl) (fun _ _ => rfl) (fun _ _ => cv_id sub_refl) rfl (fun b3_8 c3_8 => ⟨rfl, .inr (.inl rfl), ⟨rfl, .inr (.inl rfl), ⟨rfl, .inr (.inl rfl), ⟨rfl, .inr (.inl rfl), ⟨rfl, .inr (.inl rfl), ⟨rfl, .inr (.inl rfl), ⟨rfl, .inr (.inl rfl), ⟨rfl, .inr (.inl rfl), ⟨rfl, .inl rfl, ⟨rfl, .inr (.inl rfl), ⟨rfl, .inr (.inl rfl), ⟨rfl, .inr (.inl rfl), ⟨rfl, .inr (.inl rfl), ⟨rfl, .inr (.inl rfl), ⟨rfl, .inr (.inl rfl), ⟨rfl, .inr (.inl rfl), trivial⟩⟩⟩⟩⟩⟩⟩⟩⟩⟩⟩⟩⟩⟩⟩⟩) (fun b3_8 c3_8 => ⟨rfl, .inr (.inl rfl), ⟨rfl, .inr (.inl rfl), ⟨rfl, .inr (.inl rfl), ⟨rfl, .inr (.inl rfl), ⟨rfl, .inr (.inl rfl), ⟨rfl, .inr (.inl rfl), ⟨rfl, .inr (.inl rfl), ⟨rfl, .inr (.inl rfl), ⟨rfl, .inr (.inr (.inr rfl)), ⟨rfl, .inr (.inl rfl), ⟨rfl, .inr (.inl rfl), ⟨rfl, .inr (.inl rfl), ⟨rfl, .inr (.inl rfl), ⟨rfl, .inr (.inl rfl), ⟨rfl, .inl rfl, ⟨rfl, .inr (.inr (.inl rfl)), trivial⟩⟩⟩⟩⟩⟩⟩⟩⟩⟩⟩⟩⟩⟩⟩⟩) (fun _ _ => rfl) rfl ?_ (fun b3_8 c3_8 => ?_) ?_
     ·refine dws_o rfl rfl (OpOK.eqv (ok_fieldAddrEx Try.runUnderlying27 rfl Try.sizeOf25 (by decide) rfl) rfl) ?_
      refine dws_o rfl rfl (OpOK.eqv (ok_loadB (k := 1) Try.isAgg25 rfl rfl rfl) rfl) ?_
      refine dws_o rfl rfl (OpOK.eqv (ok_build0 vt22) rfl) ?_
      refine dws_o rfl rfl (OpOK.eqv (ok_fieldAddrEx Try.runUnderlying27 rfl Try.sizeOf25 (by decide) rfl) rfl) ?_
      refine dws_o rfl rfl (OpOK.eqv (ok_loadB (k := 4) Try.isAgg25 rfl rfl rfl) rfl) ?_
      refine dws_o rfl rfl (OpOK.eqv (ok_move rfl) rfl) ?_
      refine dws_o rfl rfl (OpOK.eqv (ok_index [] sl25 rfl rfl (by first | omega | (simp; omega)) (by first | omega | (simp; omega))) rfl) ?_
      refine dws_o rfl rfl (OpOK.eqv (ok_load ti22 rfl) rfl) ?_
      refine dws_s rfl rfl ?_
      refine dws_o rfl rfl (OpOK.eqv (ok_fieldAddrEx Try.runUnderlying27 rfl Try.sizeOf25 (by decide) rfl) rfl) ?_
      refine dws_o rfl rfl (OpOK.eqv (ok_loadB (k := 3) Try.isAgg25 rfl rfl rfl) rfl) ?_
      refine dws_o rfl rfl (OpOK.eqv (ok_move rfl) rfl) ?_
      refine dws_o rfl rfl (OpOK.eqv (ok_index [] sl25 rfl rfl (by first | omega | (simp; omega)) (by first | omega | (simp; omega))) rfl) ?_
      refine dws_o rfl rfl (OpOK.eqv (ok_load ti22 rfl) rfl) ?_
      refine dws_o rfl rfl (ok_no (x := .tmp 55) (by simp [Op.operands, Call.operands]) rfl) ?_
      refine dws_o rfl rfl (ok_no (x := .tmp 61) (by simp [Op.operands, Call.operands]) rfl) ?_
      exact dws_nil trivial
     ·refine dws_o rfl rfl (OpOK.eqv (ok_fieldAddrEx Try.runUnderlying27 rfl Try.sizeOf25 (by decide) rfl) rfl) ?_
      refine dws_o rfl rfl (OpOK.eqv (ok_loadB (k := 2) Try.isAgg25 rfl rfl rfl) rfl) ?_
      refine dws_o rfl rfl (OpOK.eqv (ok_build0 vt22) rfl) ?_
      refine dws_o rfl rfl (OpOK.eqv (ok_fieldAddrEx Try.runUnderlying27 rfl Try.sizeOf25 (by decide) rfl) rfl) ?_
      refine dws_o rfl rfl (OpOK.eqv (ok_loadB (k := 5) Try.isAgg25 rfl rfl rfl) rfl) ?_
      refine dws_o rfl rfl (OpOK.eqv (ok_move rfl) rfl) ?_
      refine dws_o rfl rfl (OpOK.eqv (ok_index [] sl25 rfl rfl (by first | omega | (simp; omega)) (by first | omega | (simp; omega))) rfl) ?_
      refine dws_o rfl rfl (OpOK.eqv (ok_load ti22 rfl) rfl) ?_
      refine dws_s rfl rfl ?_
      refine dws_o rfl rfl (OpOK.eqv (ok_fieldAddrEx Try.runUnderlying27 rfl Try.sizeOf25 (by decide) rfl) rfl) ?_
      refine dws_o rfl rfl (OpOK.eqv (ok_loadB (k := 4) Try.isAgg25 rfl rfl rfl) rfl) ?_
      refine dws_o rfl rfl (OpOK.eqv (ok_move rfl) rfl) ?_
      refine dws_o rfl rfl (OpOK.eqv (ok_index [] sl25 rfl rfl (by first | omega | (simp; omega)) (by first | omega | (simp; omega))) rfl) ?_
      refine dws_o rfl rfl (OpOK.eqv (ok_load ti22 rfl) rfl) ?_
      refine dws_s rfl rfl ?_
      refine dws_o rfl rfl (ok_no (x := .tmp 61) (by simp [Op.operands, Call.operands]) rfl) ?_
      exact dws_nil trivial
     refine dws_o rfl rfl (OpOK.eqv (ok_fieldAddrEx Try.runUnderlying27 rfl Try.sizeOf25 (by decide) rfl) rfl) ?_
     refine dws_o rfl rfl (OpOK.eqv (ok_loadB (k := 1) Try.isAgg25 rfl rfl rfl) rfl) ?_
     refine dws_o rfl rfl (OpOK.eqv (ok_build0 vt22) rfl) ?_
     refine dws_o rfl rfl (OpOK.eqv (ok_fieldAddrEx Try.runUnderlying27 rfl Try.sizeOf25 (by decide) rfl) rfl) ?_
     refine dws_o rfl rfl (OpOK.eqv (ok_loadB (k := 4) Try.isAgg25 rfl rfl rfl) rfl) ?_
     refine dws_o rfl rfl (OpOK.eqv (ok_move rfl) rfl) ?_
     refine dws_o rfl rfl (OpOK.eqv (ok_index [] sl25 rfl rfl (by first | omega | (simp; omega)) (by first | omega | (simp; omega))) rfl) ?_
     refine dws_o rfl rfl (OpOK.eqv (ok_load ti22 rfl) rfl) ?_
     refine dws_s rfl rfl ?_
     refine dws_o rfl rfl (OpOK.eqv (ok_fieldAddrEx Try.runUnderlying27 rfl Try.sizeOf25 (by decide) rfl) rfl) ?_
     refine dws_o rfl rfl (OpOK.eqv (ok_loadB (k := 3) Try.isAgg25 rfl rfl rfl) rfl) ?_
     refine dws_o rfl rfl (OpOK.eqv (ok_move rfl) rfl) ?_
     refine dws_o rfl rfl (OpOK.eqv (ok_index [] sl25 rfl rfl (by first | omega | (simp; omega)) (by first | omega | (simp; omega))) rfl) ?_
     refine dws_o rfl rfl (OpOK.eqv (ok_load ti22 rfl) rfl) ?_
     refine dws_s rfl rfl ?_
     refine dws_o rfl rfl (OpOK.eqv (ok_build1 (enc := aInts) (y := (ix [] a.rows i) ++ (ix [] b.rows i)) vt25 rfl (elem_one one_sl) (by decide)) rfl) ?_
     refine dws_nil ?_
     refine ent_appendS (k := 0) rfl vt25 rfl rfl (by first | rfl | assumption | (simp; done) | (simp_all; done) | omega) rfl (cv_id sub_refl) (by first | omega | (simp only [List.length_append, List.length_cons, List.length_nil]; omega) | (simp; omega)) (by first | omega | (simp only [List.length_append, List.length_cons, List.length_nil]; omega) | (simp; omega)) (fun r63_9 cr63_9 => ?_)
     refine ent_o rfl (ok_fieldAddrEx Try.runUnderlying27 rfl Try.sizeOf25 (by decide) rfl) ?_
     refine ent_storeB (k := 1) Try.sizeOf25 rfl rfl rfl (one_ex rfl) rfl ?_
     refine enk K17 ?_
     refine ent_region ?_
     refine emm rfl ?_
     refine ent_o rfl (ok_add rfl rfl (by first | omega | (simp; omega)) (by first | omega | (simp; omega))) ?_
     refine emm rfl ?_
     refine ent_nil ?_
     refine ent_again (s := (i, rr7, cc7)) (i + 1, r63_9, cr63_9) ⟨(by first | rfl | assumption | omega | (simp_all; done) | grind), (by first | rfl | assumption | omega | (simp_all; done) | grind)⟩ (by first | omega | (dsimp only; omega)) (ent_rep ⟨rfl, rfl, rfl, rfl, rfl, trivial⟩ (own_cons (own_vec (show mapR (fun k => ix [] a.rows k ++ ix [] b.rows k) (i + 1) = (mapR (fun k => ix [] a.rows k ++ ix [] b.rows k) i) ++ [(ix [] a.rows i) ++ (ix [] b.rows i)] by exact mapR_succ _ h0)) (own_cons (own_box (av_cons rfl (av_cons (av_vec (congrArg List.length (show mapR (fun k => ix [] a.rows k ++ ix [] b.rows k) (i + 1) = (mapR (fun k => ix [] a.rows k ++ ix [] b.rows k) i) ++ [(ix [] a.rows i) ++ (ix [] b.rows i)] by exact mapR_succ _ h0))) (rfl)))) (rfl))))
    ·refine ent_exit ?_
     refine ent_k K13 ?_
     refine esr rfl fun _ K18 => ?_
     refine ent_o rfl (ok_loadBS (k := 1) ti27 rfl rfl rfl) ?_
     refine ent_storeBS (k := 2) Try.sizeOf27 rfl rfl rfl (AllOne.mem ⟨(one_int _), (one_ex rfl), trivial⟩) rfl rfl ?_
     show Ent _ ⟨_, [_, _, _, _, _, _]⟩ _
     refine emm rfl ?_
     refine enk K18 ?_
     refine ent_ret ?_
     exact retR2 (.inr rfl) Try.results59 (resr_cell (k := 2) ti27 rfl rfl rfl (cv_agg ⟨cv_int (by first | (rw [besM_no hq0]; rfl) | (rw [besM_ok hqk]; done) | (rw [besM_ok hqk]; rfl) | (rw [besM_ok hqk, show i = a.rows.length by omega])), cv_vec (k := 0) (off_x rfl) (by first | rfl | assumption | (simp; done) | (simp_all; done) | omega) (by first | (rw [besM_no hq0]; rfl) | (rw [besM_ok hqk]; done) | (rw [besM_ok hqk]; rfl) | (rw [besM_ok hqk, show i = a.rows.length by omega])), trivial⟩)) (resr_tmp (res_cv rfl (cv_int (by first | exact hqk.symm | exact hqe.symm | (rw [hqe]; exact opErr_two f a b)))))
end Go.Proofs.Ytamhdlkfhhpdpaa

