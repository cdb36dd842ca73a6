/-
  Facts for the law MatrixInverse.
-/
import Derived.Test.YtamhdlkfhhpdpaaProg
import Derived.Test.YtamhdlkfhhpdpaaWTab
import Derived.Test.YtamhdlkfhhpdpaaPlainIn
import Derived.Test.YtamhdlkfhhpdpaaCzLib
import Derived.Test.YtamhdlkfhhpdpaaW1
import Derived.Test.YtamhdlkfhhpdpaaW4
import Derived.Test.YtamhdlkfhhpdpaaW5
import Derived.Test.YtamhdlkfhhpdpaaW6
import Derived.Test.YtamhdlkfhhpdpaaW9
import Derived.Test.YtamhdlkfhhpdpaaW10
import Derived.Test.YtamhdlkfhhpdpaaW11
import Derived.Test.YtamhdlkfhhpdpaaW12
import Derived.Test.YtamhdlkfhhpdpaaW13
import Derived.Test.YtamhdlkfhhpdpaaW14
import Derived.Test.YtamhdlkfhhpdpaaW15
import Derived.Test.YtamhdlkfhhpdpaaW16
import Derived.Test.YtamhdlkfhhpdpaaW17
import Derived.Test.YtamhdlkfhhpdpaaW18
import Derived.Test.YtamhdlkfhhpdpaaW19
import Derived.Test.YtamhdlkfhhpdpaaW20
import Derived.Test.YtamhdlkfhhpdpaaW21
import Derived.Test.YtamhdlkfhhpdpaaW33
open Go Go.Cw
namespace Go.Proofs.Ytamhdlkfhhpdpaa
set_option maxRecDepth 100000
set_option linter.unusedVariables false
set_option linter.unusedSimpArgs false

theorem rTransform_ok (f : Fld) (m : Mat)  : Ctr Try.prog 43 [aFld f, aMat m] (aTup [aMat (traT f m), aMat (traR f m), aInt (mErr f m)]) := by
 refine ctr_of Try.call43 Try.func43 rfl rfl ?_
 intro w O
 refine ent_lenC 0 2 rfl rfl (fun hlen0_2 => ?_)
 refine ent_lenC 1 1 rfl rfl (fun hlen1_1 => ?_)
 refine esr rfl fun _ K1 => ?_
 refine ent_boxS rfl rfl (AllOne.mem ⟨(one_int _), (one_int _), one_sl, trivial⟩) (fun b2_1 => ?_)
 refine ent_boxS rfl rfl (AllOne.mem ⟨(one_int _), one_sl, trivial⟩) (fun b3_2 => ?_)
 refine ent_alloc (z := .agg #[.int .i64 0, .slice none 0 0]) [aInt 0, aEx (.slice none 0 0)] rfl zv27 rfl zc27 (fun b4_3 => ?_)
 refine ent_alloc (z := .agg #[.int .i64 0, .slice none 0 0]) [aInt 0, aEx (.slice none 0 0)] rfl zv27 rfl zc27 (fun b5_4 => ?_)
 refine emm rfl ?_
 refine enk K1 ?_
 refine esr rfl fun _ K2 => ?_
 refine ent_o rfl (ok_loadBS (k := 3) ti24 rfl rfl rfl) ?_
 refine ent_o rfl (ok_loadBS (k := 2) ti27 rfl rfl rfl) ?_
 refine ent_o rfl (ok_call (rMCheck_ok f m) rfl) ?_
 refine emm rfl ?_
 refine enk K2 ?_
 refine ent_seq fun _ K3 => ?_
 refine esr rfl fun _ K4 => ?_
 refine ent_o rfl (ok_neq rfl rfl) ?_
 refine enk K4 ?_
 refine ent_condD rfl (fun h19 => ?_) (fun h19 => ?_)
 ·have hm0 := h19
  refine esr rfl fun _ K5 => ?_
  refine ent_o rfl (ok_build st27 (As := [aInt 0, aEx (.slice none 0 0)]) z27 (rfl)) ?_
  refine ent_o rfl (ok_build st27 (As := [aInt 0, aEx (.slice none 0 0)]) z27 (rfl)) ?_
  refine emm rfl ?_
  refine ent_storeBS (k := 1) Try.sizeOf27 rfl rfl rfl (AllOne.mem ⟨(one_int _), (one_ex rfl), trivial⟩) rfl rfl ?_
  show Ent _ ⟨_, [_, _, _, _]⟩ _
  refine ent_storeBS (k := 0) Try.sizeOf27 rfl rfl rfl (AllOne.mem ⟨(one_int _), (one_ex rfl), trivial⟩) rfl rfl ?_
  show Ent _ ⟨_, [_, _, _, _]⟩ _
  refine emm rfl ?_
  refine enk K5 ?_
  refine ent_ret ?_
  exact retR3 (.inr rfl) Try.results43 (resr_cell (k := 1) ti27 rfl rfl rfl (cv_agg ⟨cv_int (by first | (rw [traT_no hm0]; rfl) | (rw [traT_ok hm0]; done) | (rw [traT_ok hm0]; rfl) | (rw [traT_ok hm0, hty])), cv_nil (fun _ => rfl) (by first | (rw [traT_no hm0]; rfl) | (rw [traT_ok hm0]; done) | (rw [traT_ok hm0]; rfl) | (rw [traT_ok hm0, hty])), trivial⟩)) (resr_cell (k := 0) ti27 rfl rfl rfl (cv_agg ⟨cv_int (by first | (rw [traR_no hm0]; rfl) | (rw [traR_ok hm0]; done) | (rw [traR_ok hm0]; rfl) | (rw [traR_ok hm0, htx])), cv_nil (fun _ => rfl) (by first | (rw [traR_no hm0]; rfl) | (rw [traR_ok hm0]; done) | (rw [traR_ok hm0]; rfl) | (rw [traR_ok hm0, htx])), trivial⟩)) (resr_tmp (res_cv rfl (cv_int (by first | rfl | exact hm0.symm))))
 ·have hm0 := Classical.not_not.1 h19
  have hF := (mErr_zero.1 hm0).1
  have hme := (mErr_zero.1 hm0).2
  have hsz := mat_size hme
  have hgm := mat_good hme
  have tl1 := (tra_len hm0).1
  have tl2 := (tra_len hm0).2
  have lez : (elim f (zipR m.rows (uni m.rows.length)) [] m.cols.toNat).X.length = m.rows.length := by rw [(length_elim _ _ _ _).1, length_zipR]
  have hul := length_uni (m.rows.length : Int)
  refine esp K3 ?_
  refine esr rfl fun _ K6 => ?_
  refine ent_o rfl (ok_fieldAddrEx Try.runUnderlying27 rfl Try.sizeOf25 (by decide) rfl) ?_
  refine ent_o rfl (ok_loadB (k := 2) Try.isAgg25 rfl rfl rfl) ?_
  refine ent_o rfl (ok_len rfl Try.runUnderlying25 rfl) ?_
  refine emm rfl ?_
  refine enk K6 ?_
  refine esr rfl fun _ K7 => ?_
  refine ent_o rfl (ok_call (rUnit_ok (↑m.rows.length : Int) (by first | rfl | assumption | omega | (simp_all; done) | grind) (by first | rfl | assumption | omega | (simp_all; done) | grind)) rfl) ?_
  refine emm rfl ?_
  refine enk K7 ?_
  refine esk rfl ?_
  refine ent_seq fun _ K9 => ?_
  refine esk rfl ?_
  refine ent_block ?_
  refine ent_open 22 1 false aInts (fun _ => rfl) ?_
  refine ent_loop (fun (ss : Int × Option Nat × Nat) => match ss with | (i, rr6, cc6) => (⟨[(2, aEx (.pointer (some ⟨b2_1, 0, none⟩))), (3, aEx (.pointer (some ⟨b3_2, 0, none⟩))), (4, aEx (.pointer (some ⟨b4_3, 0, none⟩))), (5, aEx (.pointer (some ⟨b5_4, 0, none⟩))), (8, aInt (↑m.rows.length : Int)), (9, aSl 1 false aInts (uni (↑m.rows.length : Int))), (10, aEx (vec rr6 (((zipR m.rows (uni m.rows.length)).take i.toNat).length) cc6)), (11, aInt i)], [oVec rr6 cc6 22 1 false aInts ((zipR m.rows (uni m.rows.length)).take i.toNat), oBox b5_4 27 [aInt 0, aEx (.slice none 0 0)], oBox b4_3 27 [aInt 0, aEx (.slice none 0 0)], oBox b3_2 27 [aInt m.cols, aSl 1 false aInts m.rows], oBox b2_1 24 [aInt f.P, aInt f.M, aSl 1 false aInt f.mod]]⟩ : St)) (fun (ss : Int × Option Nat × Nat) => match ss with | (i, rr6, cc6) => (0 ≤ i) ∧ (i ≤ m.rows.length)) (fun (ss : Int × Option Nat × Nat) => match ss with | (i, rr6, cc6) => (m.rows.length - i).toNat) (0, none, 0) ⟨(by first | rfl | assumption | omega | (simp_all; done) | grind), (by first | rfl | assumption | omega | (simp_all; done) | grind)⟩ (ent_rep ⟨rfl, rfl, rfl, rfl, rfl, rfl, slot_av ((show aEx (vec none ([] : List _).length 0) = aEx (vec none (((zipR m.rows (uni m.rows.length)).take (0 : Int).toNat).length) 0) from av_vec (congrArg List.length (show (zipR m.rows (uni m.rows.length)).take (0 : Int).toNat = [] by rfl).symm))), slot_av (av_int (show 0 = (0 : Int) by first | rfl | assumption | omega | (simp_all; done) | grind)), trivial⟩ (own_cons (own_vec (show (zipR m.rows (uni m.rows.length)).take (0 : Int).toNat = [] by rfl)) (rfl))) ?_
  rintro ⟨i, rr6, cc6⟩ ⟨h0, h1⟩
  show Ent _ ⟨_, [_, _, _, _, _]⟩ _
  have ltz : ((zipR m.rows (uni m.rows.length)).take i.toNat).length = i.toNat := by rw [List.length_take, length_zipR]; omega
  refine ent_seq fun _ K11 => ?_
  refine esr rfl fun _ K12 => ?_
  refine ent_o rfl (ok_lss rfl rfl) ?_
  refine enk K12 ?_
  refine ent_condD rfl (fun h30 => ?_) (fun h30 => ?_)
  ·have hri := row_len hme h0 h30
   have hui := ix_mem' h0 (show i < (uni m.rows.length).length by rw [length_uni]; omega)
   have huw := wide_uni _ _ hui
   refine esp K11 ?_
   refine ent_seq fun _ K13 => ?_
   refine ent_block ?_
   refine ent_drawV1A (e := 3) (enc := aInt) (xs := ix [] m.rows i) (ys := ix [] (uni (↑m.rows.length : Int)) i) (dy := 44) 12 [0] 40 [(10, aEx (vec rr6 (((zipR m.rows (uni m.rows.length)).take i.toNat).length) cc6)), (33, aEx (vec rr6 (((zipR m.rows (uni m.rows.length)).take i.toNat).length) cc6))] [(2, aEx (.pointer (some ⟨b2_1, 0, none⟩))), (3, aEx (.pointer (some ⟨b3_2, 0, none⟩))), (4, aEx (.pointer (some ⟨b4_3, 0, none⟩))), (5, aEx (.pointer (some ⟨b5_4, 0, none⟩))), (8, aInt (↑m.rows.length : Int)), (9, aSl 1 false aInts (uni (↑m.rows.length : Int))), (11, aInt i)] mixed (by kernel_rfl) (by kernel_rfl) (by kernel_rfl) (by kernel_rfl) (by kernel_rfl) (fun _ _ _ _ _ h => h) rfl rfl vt22 flat_int (by simp [one_int]) (AllPlS.mem ⟨pl_ex, pl_ex, trivial⟩) ⟨rfl, rfl, rfl, rfl, rfl, rfl, rfl, trivial⟩ (by kernel_rfl) read_sl (by first | omega | (simp; omega)) (by first | omega | (simp; omega)) (fun w => ?_) (fun ra_7 ca_7 r0 c0 => ?_)
   ·refine dw_o rfl (ok_move rfl) ?_
    refine dw_o rfl (ok_build0F vt22) ?_
    refine dw_o rfl (ok_fieldAddrEx Try.runUnderlying27 rfl Try.sizeOf25 (by decide) rfl) ?_
    refine dw_o rfl (ok_loadB (k := 3) Try.isAgg25 rfl rfl rfl) ?_
    refine dw_o rfl (ok_move rfl) ?_
    refine dw_o rfl (ok_index [] sl25 rfl rfl (by first | omega | (simp; omega)) (by first | omega | (simp; omega))) ?_
    refine dw_o rfl (ok_load ti22 rfl) ?_
    refine dw_o rfl (ok_append0F vt22 (fun _ => pl_ex) rfl rfl (cv_id sub_refl) (by first | omega | (simp; omega)) (by first | omega | (simp; omega))) ?_
    refine dw_o rfl (ok_move rfl) ?_
    refine dw_o rfl (ok_move rfl) ?_
    refine dw_o rfl (ok_index [] sl25 rfl rfl (by first | omega | (simp; omega)) (by first | omega | (simp; omega))) ?_
    refine dw_o rfl (ok_load ti22 rfl) ?_
    exact ⟨rfl, rfl, ⟨rfl, rfl, trivial⟩⟩
   refine ent_give 0 45 rfl (cv_vec (k := 0) (off_erase rfl) (by first | rfl | assumption | (simp; done) | (simp_all; done) | omega) rfl) ?_
   refine ent_appendL (k := 0) (enc := aInts) (y := (ix [] m.rows i) ++ (ix [] (uni (↑m.rows.length : Int)) i)) rfl rfl vt25 rfl rfl (by first | rfl | assumption | (simp; done) | (simp_all; done) | omega) rfl ((elem_one one_sl)) (by first | omega | (simp only [List.length_append, List.length_cons, List.length_nil]; omega) | (simp; omega)) (by first | omega | (simp only [List.length_append, List.length_cons, List.length_nil]; omega) | (simp; omega)) (by decide) (fun b47_8 c47_8 => ?_)
   refine emm rfl ?_
   refine enk K13 ?_
   refine ent_region ?_
   refine emm rfl ?_
   refine ent_o rfl (ok_add rfl rfl (by first | omega | (simp; omega)) (by first | omega | (simp; omega))) ?_
   refine emm rfl ?_
   refine ent_nil ?_
   refine ent_again (s := (i, rr6, cc6)) (i + 1, (some b47_8), c47_8) ⟨(by first | rfl | assumption | omega | (simp_all; done) | grind), (by first | rfl | assumption | omega | (simp_all; done) | grind)⟩ (by first | omega | (dsimp only; omega)) (ent_rep ⟨rfl, rfl, rfl, rfl, rfl, rfl, slot_av (av_vec (congrArg List.length (show (zipR m.rows (uni m.rows.length)).take (i + 1).toNat = ((zipR m.rows (uni m.rows.length)).take i.toNat) ++ [(ix [] m.rows i) ++ (ix [] (uni (↑m.rows.length : Int)) i)] by rw [take_succ_ix [] (zipR m.rows (uni m.rows.length)) h0 (by rw [length_zipR]; omega), ix_zipR h0 (by omega)]).symm)), rfl, trivial⟩ (own_cons (own_vec (show (zipR m.rows (uni m.rows.length)).take (i + 1).toNat = ((zipR m.rows (uni m.rows.length)).take i.toNat) ++ [(ix [] m.rows i) ++ (ix [] (uni (↑m.rows.length : Int)) i)] by rw [take_succ_ix [] (zipR m.rows (uni m.rows.length)) h0 (by rw [length_zipR]; omega), ix_zipR h0 (by omega)])) (rfl)))
  ·have htk : (zipR m.rows (uni m.rows.length)).take i.toNat = (zipR m.rows (uni m.rows.length)) := List.take_of_length_le (by rw [length_zipR]; omega)
   refine ent_exit ?_
   refine ent_k K9 ?_
   refine ent_seq fun _ K14 => ?_
   rw [htk]
   refine ent_region ?_
   refine ent_o rfl (ok_loadBS (k := 4) ti24 rfl rfl rfl) ?_
   refine emm rfl ?_
   refine ent_o rfl (ok_fieldAddrEx Try.runUnderlying27 rfl Try.sizeOf3 (by decide) rfl) ?_
   refine ent_o rfl (ok_loadB (k := 3) Try.isAgg3 rfl rfl rfl) ?_
   refine ent_give 0 50 rfl (cv_vec (k := 0) (off_erase rfl) (by first | rfl | assumption | (simp; done) | (simp_all; done) | omega) rfl) ?_
   refine ent_o rfl (ok_call (rEliminate_ok f (zipR m.rows (uni m.rows.length)) m.cols (m.cols.toNat + m.rows.length) (by first | rfl | assumption | omega | (simp_all; done) | grind) (tra_good hm0) (by first | rfl | assumption | omega | (simp_all; done) | grind) (by omega) (by omega) (by rw [length_zipR]; omega)) rfl) ?_
   refine emm rfl ?_
   refine ent_o rfl (ok_extract rfl rfl) ?_
   refine ent_o rfl (ok_extract rfl rfl) ?_
   refine emm rfl ?_
   refine enk K14 ?_
   refine esk rfl ?_
   refine ent_seq fun _ K16 => ?_
   refine esk rfl ?_
   refine ent_block ?_
   refine ent_open 22 1 false aInts (fun _ => rfl) ?_
   refine ent_open 22 1 false aInts (fun _ => rfl) ?_
   refine ent_loop (fun (ss : Int × Option Nat × Nat × Option Nat × Nat) => match ss with | (i, rr11, cc11, rr12, cc12) => (⟨[(3, aEx (.pointer (some ⟨b3_2, 0, none⟩))), (4, aEx (.pointer (some ⟨b4_3, 0, none⟩))), (5, aEx (.pointer (some ⟨b5_4, 0, none⟩))), (8, aInt (↑m.rows.length : Int)), (10, aSl 1 false aInts ((elim f (zipR m.rows (uni m.rows.length)) [] m.cols.toNat).X)), (12, aEx (vec rr11 (((traX f m).Y.take i.toNat).length) cc11)), (13, aEx (vec rr12 (((traX f m).X.take i.toNat).length) cc12)), (14, aInt i)], [oVec rr12 cc12 22 1 false aInts ((traX f m).X.take i.toNat), oVec rr11 cc11 22 1 false aInts ((traX f m).Y.take i.toNat), oBox b5_4 27 [aInt 0, aEx (.slice none 0 0)], oBox b4_3 27 [aInt 0, aEx (.slice none 0 0)], oBox b3_2 27 [aInt m.cols, aSl 1 false aInts m.rows], oBox b2_1 24 [aInt f.P, aInt f.M, aSl 1 false aInt f.mod]]⟩ : St)) (fun (ss : Int × Option Nat × Nat × Option Nat × Nat) => match ss with | (i, rr11, cc11, rr12, cc12) => (0 ≤ i) ∧ (i ≤ m.rows.length)) (fun (ss : Int × Option Nat × Nat × Option Nat × Nat) => match ss with | (i, rr11, cc11, rr12, cc12) => (m.rows.length - i).toNat) (0, none, 0, none, 0) ⟨(by first | rfl | assumption | omega | (simp_all; done) | grind), (by first | rfl | assumption | omega | (simp_all; done) | grind)⟩ (ent_rep ⟨rfl, rfl, rfl, rfl, rfl, slot_av ((show aEx (vec none ([] : List _).length 0) = aEx (vec none (((traX f m).Y.take (0 : Int).toNat).length) 0) from av_vec (congrArg List.length (show (traX f m).Y.take (0 : Int).toNat = [] by rfl).symm))), slot_av ((show aEx (vec none ([] : List _).length 0) = aEx (vec none (((traX f m).X.take (0 : Int).toNat).length) 0) from av_vec (congrArg List.length (show (traX f m).X.take (0 : Int).toNat = [] by rfl).symm))), slot_av (av_int (show 0 = (0 : Int) by first | rfl | assumption | omega | (simp_all; done) | grind)), trivial⟩ (own_cons (own_vec (show (traX f m).X.take (0 : Int).toNat = [] by rfl)) (own_cons (own_vec (show (traX f m).Y.take (0 : Int).toNat = [] by rfl)) (rfl)))) ?_
   rintro ⟨i, rr11, cc11, rr12, cc12⟩ ⟨k0, k1⟩
   show Ent _ ⟨_, [_, _, _, _, _, _]⟩ _
   have lty : ((traX f m).Y.take i.toNat).length = i.toNat := by rw [List.length_take]; omega
   have ltx : ((traX f m).X.take i.toNat).length = i.toNat := by rw [List.length_take]; omega
   refine ent_seq fun _ K18 => ?_
   refine esr rfl fun _ K19 => ?_
   refine ent_o rfl (ok_lss rfl rfl) ?_
   refine enk K19 ?_
   refine ent_condD rfl (fun h58 => ?_) (fun h58 => ?_)
   ·have hzi := tra_wid hm0 k0 h58
    refine esp K18 ?_
    refine ent_seq fun _ K20 => ?_
    refine ent_block ?_
    refine ent_seq fun _ K21 => ?_
    refine ent_drawV1 (e := 3) (enc := aInt) (xs := List.take (m.cols).toNat (ix [] ((elim f (zipR m.rows (uni m.rows.length)) [] m.cols.toNat).X) i)) 10 [0] 70 [(13, aEx (vec rr12 (((traX f m).X.take i.toNat).length) cc12)), (61, aEx (vec rr12 (((traX f m).X.take i.toNat).length) cc12))] [(3, aEx (.pointer (some ⟨b3_2, 0, none⟩))), (4, aEx (.pointer (some ⟨b4_3, 0, none⟩))), (5, aEx (.pointer (some ⟨b5_4, 0, none⟩))), (8, aInt (↑m.rows.length : Int)), (10, aSl 1 false aInts ((elim f (zipR m.rows (uni m.rows.length)) [] m.cols.toNat).X)), (12, aEx (vec rr11 (((traX f m).Y.take i.toNat).length) cc11)), (14, aInt i)] mixed (by kernel_rfl) (by kernel_rfl) (by kernel_rfl) (by kernel_rfl) (by kernel_rfl) (fun _ _ _ _ _ h => h) flat_int (AllPlS.mem ⟨pl_ex, pl_ex, trivial⟩) ⟨rfl, rfl, rfl, rfl, rfl, rfl, rfl, trivial⟩ (by kernel_rfl) (fun w => ?_) (fun ra_13 ca_13 => ?_)
    ·refine dw_o rfl (ok_move rfl) ?_
     refine dw_o rfl (ok_build0F vt22) ?_
     refine dw_o rfl (ok_move rfl) ?_
     refine dw_o rfl (ok_move rfl) ?_
     refine dw_o rfl (ok_index [] sl25 rfl rfl (by first | omega | (simp; omega)) (by first | omega | (simp; omega))) ?_
     refine dw_o rfl (ok_load ti22 rfl) ?_
     refine dw_o rfl (ok_fieldAddrEx Try.runUnderlying27 rfl Try.sizeOf3 (by decide) rfl) ?_
     refine dw_o rfl (ok_loadB (k := 4) Try.isAgg3 rfl rfl rfl) ?_
     refine dw_o rfl (ok_sliceTo sl22 rfl rfl (by first | omega | (simp; omega)) (by first | omega | (simp; omega))) ?_
     refine dw_o rfl (ok_append0F vt22 (fun _ => pl_ex) rfl rfl (cv_id sub_refl) (by first | omega | (simp; omega)) (by first | omega | (simp; omega))) ?_
     exact ⟨rfl, ⟨rfl, rfl, trivial⟩⟩
    refine ent_give 0 70 rfl (cv_vec (k := 0) (off_erase rfl) (by first | rfl | assumption | (simp; done) | (simp_all; done) | omega) rfl) ?_
    refine ent_appendL (k := 0) (enc := aInts) (y := List.take (m.cols).toNat (ix [] ((elim f (zipR m.rows (uni m.rows.length)) [] m.cols.toNat).X) i)) rfl rfl vt25 rfl rfl (by first | rfl | assumption | (simp; done) | (simp_all; done) | omega) rfl ((elem_one one_sl)) (by first | omega | (simp only [List.length_append, List.length_cons, List.length_nil]; omega) | (simp; omega)) (by first | omega | (simp only [List.length_append, List.length_cons, List.length_nil]; omega) | (simp; omega)) (by decide) (fun b72_14 c72_14 => ?_)
    refine emm rfl ?_
    refine enk K21 ?_
    refine ent_drawV1 (e := 3) (enc := aInt) (xs := List.drop (m.cols).toNat (ix [] ((elim f (zipR m.rows (uni m.rows.length)) [] m.cols.toNat).X) i)) 10 [0] 82 [(12, aEx (vec rr11 (((traX f m).Y.take i.toNat).length) cc11)), (73, aEx (vec rr11 (((traX f m).Y.take i.toNat).length) cc11))] [(3, aEx (.pointer (some ⟨b3_2, 0, none⟩))), (4, aEx (.pointer (some ⟨b4_3, 0, none⟩))), (5, aEx (.pointer (some ⟨b5_4, 0, none⟩))), (8, aInt (↑m.rows.length : Int)), (10, aSl 1 false aInts ((elim f (zipR m.rows (uni m.rows.length)) [] m.cols.toNat).X)), (13, aEx (vec (some b72_14) ((((traX f m).X.take i.toNat) ++ [List.take (m.cols).toNat (ix [] ((elim f (zipR m.rows (uni m.rows.length)) [] m.cols.toNat).X) i)]).length) c72_14)), (14, aInt i)] mixed (by kernel_rfl) (by kernel_rfl) (by kernel_rfl) (by kernel_rfl) (by kernel_rfl) (fun _ _ _ _ _ h => h) flat_int (AllPlS.mem ⟨pl_ex, pl_ex, trivial⟩) ⟨rfl, rfl, rfl, rfl, rfl, rfl, rfl, trivial⟩ (by kernel_rfl) (fun w => ?_) (fun ra_15 ca_15 => ?_)
    ·refine dw_o rfl (ok_move rfl) ?_
     refine dw_o rfl (ok_build0F vt22) ?_
     refine dw_o rfl (ok_move rfl) ?_
     refine dw_o rfl (ok_move rfl) ?_
     refine dw_o rfl (ok_index [] sl25 rfl rfl (by first | omega | (simp; omega)) (by first | omega | (simp; omega))) ?_
     refine dw_o rfl (ok_load ti22 rfl) ?_
     refine dw_o rfl (ok_fieldAddrEx Try.runUnderlying27 rfl Try.sizeOf3 (by decide) rfl) ?_
     refine dw_o rfl (ok_loadB (k := 4) Try.isAgg3 rfl rfl rfl) ?_
     refine dw_o rfl (ok_sliceFrom sl22 rfl rfl (by first | omega | (simp; omega)) (by first | omega | (simp; omega))) ?_
     refine dw_o rfl (ok_append0F vt22 (fun _ => pl_ex) rfl rfl (cv_id sub_refl) (by first | omega | (simp; omega)) (by first | omega | (simp; omega))) ?_
     exact ⟨rfl, ⟨rfl, rfl, trivial⟩⟩
    refine ent_give 0 82 rfl (cv_vec (k := 0) (off_erase rfl) (by first | rfl | assumption | (simp; done) | (simp_all; done) | omega) rfl) ?_
    refine ent_appendL (k := 1) (enc := aInts) (y := List.drop (m.cols).toNat (ix [] ((elim f (zipR m.rows (uni m.rows.length)) [] m.cols.toNat).X) i)) rfl rfl vt25 rfl rfl (by first | rfl | assumption | (simp; done) | (simp_all; done) | omega) rfl ((elem_one one_sl)) (by first | omega | (simp only [List.length_append, List.length_cons, List.length_nil]; omega) | (simp; omega)) (by first | omega | (simp only [List.length_append, List.length_cons, List.length_nil]; omega) | (simp; omega)) (by decide) (fun b84_16 c84_16 => ?_)
    refine emm rfl ?_
    refine enk K20 ?_
    refine ent_region ?_
    refine emm rfl ?_
    refine ent_o rfl (ok_add rfl rfl (by first | omega | (simp; omega)) (by first | omega | (simp; omega))) ?_
    refine emm rfl ?_
    refine ent_nil ?_
    refine ent_again (s := (i, rr11, cc11, rr12, cc12)) (i + 1, (some b84_16), c84_16, (some b72_14), c72_14) ⟨(by first | rfl | assumption | omega | (simp_all; done) | grind), (by first | rfl | assumption | omega | (simp_all; done) | grind)⟩ (by first | omega | (dsimp only; omega)) (ent_rep ⟨rfl, rfl, rfl, rfl, rfl, slot_av (av_vec (congrArg List.length (show (traX f m).Y.take (i + 1).toNat = ((traX f m).Y.take i.toNat) ++ [List.drop (m.cols).toNat (ix [] ((elim f (zipR m.rows (uni m.rows.length)) [] m.cols.toNat).X) i)] by first | (rw [take_succ_ix [] (traX f m).Y k0 (by omega), ← tra_drop hm0 k0 (by omega)]; done) | (rw [take_succ_ix [] (traX f m).X k0 (by omega), ← tra_take hm0 k0 (by omega)]; done)).symm)), slot_av (av_vec (congrArg List.length (show (traX f m).X.take (i + 1).toNat = ((traX f m).X.take i.toNat) ++ [List.take (m.cols).toNat (ix [] ((elim f (zipR m.rows (uni m.rows.length)) [] m.cols.toNat).X) i)] by first | (rw [take_succ_ix [] (traX f m).Y k0 (by omega), ← tra_drop hm0 k0 (by omega)]; done) | (rw [take_succ_ix [] (traX f m).X k0 (by omega), ← tra_take hm0 k0 (by omega)]; done)).symm)), rfl, trivial⟩ (own_cons (own_vec (show (traX f m).X.take (i + 1).toNat = ((traX f m).X.take i.toNat) ++ [List.take (m.cols).toNat (ix [] ((elim f (zipR m.rows (uni m.rows.length)) [] m.cols.toNat).X) i)] by first | (rw [take_succ_ix [] (traX f m).Y k0 (by omega), ← tra_drop hm0 k0 (by omega)]; done) | (rw [take_succ_ix [] (traX f m).X k0 (by omega), ← tra_take hm0 k0 (by omega)]; done))) (own_cons (own_vec (show (traX f m).Y.take (i + 1).toNat = ((traX f m).Y.take i.toNat) ++ [List.drop (m.cols).toNat (ix [] ((elim f (zipR m.rows (uni m.rows.length)) [] m.cols.toNat).X) i)] by first | (rw [take_succ_ix [] (traX f m).Y k0 (by omega), ← tra_drop hm0 k0 (by omega)]; done) | (rw [take_succ_ix [] (traX f m).X k0 (by omega), ← tra_take hm0 k0 (by omega)]; done))) (rfl))))
   ·have hty : (traX f m).Y.take i.toNat = (traX f m).Y := List.take_of_length_le (by omega)
    have htx : (traX f m).X.take i.toNat = (traX f m).X := List.take_of_length_le (by omega)
    refine ent_exit ?_
    refine ent_k K16 ?_
    refine ent_seq fun _ K22 => ?_
    refine ent_drawP2 7 [3, 4, 5, 6] [(88, aEx (.pointer (some ⟨b3_2, 0, none⟩))), (89, aInt m.cols), (90, aEx (vec rr12 (((traX f m).X.take i.toNat).length) cc12)), (91, aAgg [aInt m.cols, aEx (vec rr12 (((traX f m).X.take i.toNat).length) cc12)])] [(3, aEx (.pointer (some ⟨b3_2, 0, none⟩))), (4, aEx (.pointer (some ⟨b4_3, 0, none⟩))), (5, aEx (.pointer (some ⟨b5_4, 0, none⟩))), (13, aEx (vec rr12 (((traX f m).X.take i.toNat).length) cc12)), (87, aAgg [aInt (↑m.rows.length : Int), aEx (vec rr11 (((traX f m).Y.take i.toNat).length) cc11)])] mixed (by kernel_rfl) (by kernel_rfl) rfl (by decide) rfl (by kernel_rfl) (AllPlS.mem ⟨pl_ex, pl_ex, pl_ex, pl_agg ⟨pl_ex, pl_ex, trivial⟩, trivial⟩) ?_ ?_
    ·refine dw_o rfl (ok_move rfl) ?_
     refine dw_o rfl (ok_move rfl) ?_
     refine dw_o rfl (ok_build st27 (As := [aInt 0, aEx (.slice none 0 0)]) z27 (⟨0, 1, rfl, .inl ⟨rfl, _, rfl, (one_int _), rfl, ⟨1, 1, rfl, .inl ⟨rfl, _, rfl, (one_ex rfl), rfl, rfl⟩⟩⟩⟩)) ?_
     refine dw_o rfl (ok_fieldAddrEx Try.runUnderlying27 rfl Try.sizeOf3 (by decide) rfl) ?_
     refine dw_o rfl (ok_loadB (k := 4) Try.isAgg3 rfl rfl rfl) ?_
     refine dw_o rfl (ok_move rfl) ?_
     refine dw_o rfl (ok_build st27 (As := [aInt 0, aEx (.slice none 0 0)]) z27 (⟨0, 1, rfl, .inl ⟨rfl, _, rfl, (one_int _), rfl, ⟨1, 1, rfl, .inl ⟨rfl, _, rfl, (one_ex rfl), rfl, rfl⟩⟩⟩⟩)) ?_
     refine dw_nil ?_
     exact ⟨⟨rfl, rfl, rfl, rfl, rfl, trivial⟩, ⟨rfl, rfl, rfl, rfl, trivial⟩⟩
    refine ent_storeBS (k := 3) Try.sizeOf27 rfl rfl rfl (AllOne.mem ⟨(one_int _), (one_ex rfl), trivial⟩) rfl rfl ?_
    show Ent _ ⟨_, [_, _, _, _, _, _]⟩ _
    refine ent_nil ?_
    refine ent_QK ?_
    refine ent_ph1 (t0 := none) 7 [3, 4, 5, 6] [(88, aEx (.pointer (some ⟨b3_2, 0, none⟩))), (89, aInt m.cols), (90, aEx (vec rr12 (((traX f m).X.take i.toNat).length) cc12)), (91, aAgg [aInt m.cols, aEx (vec rr12 (((traX f m).X.take i.toNat).length) cc12)])] (by kernel_rfl) (by kernel_rfl) (by decide) (by decide) (by kernel_rfl) rfl (AllPlS.mem ⟨pl_ex, pl_ex, pl_ex, pl_agg ⟨pl_ex, pl_ex, trivial⟩, trivial⟩) (by kernel_rfl) ?_
    refine dwi_o (o := ⟨_, _, _, _, _, _⟩) rfl rfl rfl ?_ ?_
    ·exact OpOK.eqv (ok_fieldAddrEx Try.runUnderlying27 rfl Try.sizeOf3 (by decide) rfl) rfl
    refine dwi_o (o := ⟨_, _, _, _, _, _⟩) rfl rfl rfl ?_ ?_
    ·exact OpOK.eqv (ok_loadB (k := 4) Try.isAgg3 rfl rfl rfl) rfl
    refine dwi_o (o := ⟨_, _, _, _, _, _⟩) rfl rfl rfl ?_ ?_
    ·exact OpOK.eqv (ok_move rfl) rfl
    refine dwi_o (o := ⟨_, _, _, _, _, _⟩) rfl rfl rfl ?_ ?_
    ·exact OpOK.eqv (ok_build st27 (As := [aInt 0, aEx (.slice none 0 0)]) z27 (⟨0, 1, rfl, .inl ⟨rfl, _, rfl, (one_int _), rfl, ⟨1, 1, rfl, .inl ⟨rfl, _, rfl, (one_ex rfl), rfl, rfl⟩⟩⟩⟩)) rfl
    refine ent_storeBS (k := 2) Try.sizeOf27 rfl rfl rfl (AllOne.mem ⟨(one_int _), (one_ex rfl), trivial⟩) rfl rfl ?_
    show Ent _ ⟨_, [_, _, _, _, _, _]⟩ _
    refine emm rfl ?_
    refine enk K22 ?_
    refine ent_ret ?_
    exact retR3 (.inr rfl) Try.results43 (resr_cell (k := 3) ti27 rfl rfl rfl (cv_agg ⟨cv_int (by first | (rw [traT_no hm0]; rfl) | (rw [traT_ok hm0]; done) | (rw [traT_ok hm0]; rfl) | (rw [traT_ok hm0, hty])), cv_vec (k := 1) (off_x rfl) (by first | rfl | assumption | (simp; done) | (simp_all; done) | omega) (by first | (rw [traT_no hm0]; rfl) | (rw [traT_ok hm0]; done) | (rw [traT_ok hm0]; rfl) | (rw [traT_ok hm0, hty])), trivial⟩)) (resr_cell (k := 2) ti27 rfl rfl rfl (cv_agg ⟨cv_int (by first | (rw [traR_no hm0]; rfl) | (rw [traR_ok hm0]; done) | (rw [traR_ok hm0]; rfl) | (rw [traR_ok hm0, htx])), cv_vec (k := 0) (off_x rfl) (by first | rfl | assumption | (simp; done) | (simp_all; done) | omega) (by first | (rw [traR_no hm0]; rfl) | (rw [traR_ok hm0]; done) | (rw [traR_ok hm0]; rfl) | (rw [traR_ok hm0, htx])), trivial⟩)) (resr_tmp (res_cv rfl (cv_int (by first | rfl | exact hm0.symm))))
end Go.Proofs.Ytamhdlkfhhpdpaa

