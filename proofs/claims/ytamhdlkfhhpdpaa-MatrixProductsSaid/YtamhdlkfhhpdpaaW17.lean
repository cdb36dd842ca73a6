/-
  Det, Inverse.
-/
import Derived.Test.YtamhdlkfhhpdpaaProg
import Derived.Test.YtamhdlkfhhpdpaaWTab
import Derived.Test.YtamhdlkfhhpdpaaPlainMt
import Derived.Test.YtamhdlkfhhpdpaaCzLib
import Derived.Test.YtamhdlkfhhpdpaaW1
import Derived.Test.YtamhdlkfhhpdpaaW4
import Derived.Test.YtamhdlkfhhpdpaaW5
import Derived.Test.YtamhdlkfhhpdpaaW6
import Derived.Test.YtamhdlkfhhpdpaaW9
import Derived.Test.YtamhdlkfhhpdpaaW10
import Derived.Test.YtamhdlkfhhpdpaaW11
import Derived.Test.YtamhdlkfhhpdpaaW12
import Derived.Test.YtamhdlkfhhpdpaaW13
import Derived.Test.YtamhdlkfhhpdpaaW14
open Go Go.Cw
namespace Go.Proofs.Ytamhdlkfhhpdpaa
set_option maxRecDepth 100000
set_option linter.unusedVariables false
set_option linter.unusedSimpArgs false
theorem mDet_ok (f : Fld) (m : Mat)  : Ctr Try.prog 37 [aFld f, aMat m] (aTup [aInt (detV f m), aInt (sqErr f m)]) := by
 refine ctr_of Try.call37 Try.func37 rfl rfl ?_
 intro w O
 refine ent_lenC 0 2 rfl rfl (fun hlen0_2 => ?_)
 refine ent_lenC 1 1 rfl rfl (fun hlen1_1 => ?_)
 refine esr rfl fun _ K1 => ?_
 refine ent_boxS rfl rfl (AllOne.mem ⟨(one_int _), (one_int _), one_sl, trivial⟩) (fun b2_1 => ?_)
 refine ent_boxS rfl rfl (AllOne.mem ⟨(one_int _), one_sl, trivial⟩) (fun b3_2 => ?_)
 refine emm rfl ?_
 refine enk K1 ?_
 refine esr rfl fun _ K2 => ?_
 refine ent_o rfl (ok_loadBS (k := 1) ti24 rfl rfl rfl) ?_
 refine ent_o rfl (ok_loadBS (k := 0) ti27 rfl rfl rfl) ?_
 refine ent_o rfl (ok_build1 (enc := aMat) (y := (⟨m.cols, m.rows⟩ : Mat)) vt67 rfl (elem_agg (AllOne.mem ⟨(one_int _), one_sl, trivial⟩)) (by decide)) ?_
 rcases Classical.em (mErr f m = 0) with hm0 | hm0
 ·refine ent_o rfl (ok_call (open_ok f [(⟨m.cols, m.rows⟩ : Mat)] (mErr_zero.1 hm0).1 (by intro q hq; simp only [List.mem_cons, List.not_mem_nil, or_false] at hq; subst hq; exact (mErr_zero.1 hm0).2) (by simp)) rfl) ?_
  refine emm rfl ?_
  refine ent_o rfl (ok_extract rfl rfl) ?_
  refine ent_o rfl (ok_extract rfl rfl) ?_
  refine emm rfl ?_
  refine enk K2 ?_
  refine ent_seq fun _ K3 => ?_
  refine esr rfl fun _ K4 => ?_
  refine ent_o rfl (ok_neq rfl rfl) ?_
  refine enk K4 ?_
  refine ent_condFP rfl (by decide) ?_
  refine esp K3 ?_
  refine ent_seq fun _ K5 => ?_
  refine ent_seq fun _ K6 => ?_
  have hF := (mErr_zero.1 hm0).1
  have hme := (mErr_zero.1 hm0).2
  have hsz := mat_size hme
  have hgm := mat_good hme
  refine ent_region ?_
  refine ent_o rfl (ok_fieldAddrEx Try.runUnderlying27 rfl Try.sizeOf25 (by decide) rfl) ?_
  refine ent_o rfl (ok_loadB (k := 0) Try.isAgg25 rfl rfl rfl) ?_
  refine ent_o rfl (ok_len rfl Try.runUnderlying25 rfl) ?_
  refine ent_o rfl (ok_fieldAddrEx Try.runUnderlying27 rfl Try.sizeOf3 (by decide) rfl) ?_
  refine ent_o rfl (ok_loadB (k := 0) Try.isAgg3 rfl rfl rfl) ?_
  refine ent_o rfl (ok_neq rfl rfl) ?_
  refine enk K6 ?_
  refine ent_condD rfl (fun h25 => ?_) (fun h25 => ?_)
  ·have hqe : sqErr f m = 3 := sqErr_bad hm0 h25
   have hq0 : sqErr f m ≠ 0 := by rw [hqe]; decide
   refine esk rfl ?_
   refine ent_ret ?_
   exact retR2 (.inr rfl) Try.results37 (resr_tmp (res_cv rfl (cv_int (by exact (detV_no hq0).symm)))) (resr_tmp (res_cv rfl (cv_int (by exact hqe.symm))))
  ·have hqk := sqErr_ok hm0 h25
   refine esp K5 ?_
   refine ent_seq fun _ K8 => ?_
   refine ent_drawW1M (φ := fun (y : Option Nat × Nat × List Hdr) => match y with | (r, c, Hs) => Hs.length = m.rows.length) (A := fun (y : Option Nat × Nat × List Hdr) => match y with | (r, c, Hs) => aEx (vec r Hs.length c)) (Ws := fun (y : Option Nat × Nat × List Hdr) => match y with | (r, c, Hs) => [oVec r c 22 1 false aH Hs, oRws 3 aInt [] Hs m.rows]) 6 [] [6, 7, 8, 9, 10, 11] 30 [(32, aInt m.cols)] [(3, aEx (.pointer (some ⟨b3_2, 0, none⟩))), (27, aGF f)] mixed rfl (by kernel_rfl) (by kernel_rfl) (by kernel_rfl) (by kernel_rfl) (by kernel_rfl) (by kernel_rfl) (by kernel_rfl) (by kernel_rfl) (by kernel_rfl) (fun _ _ _ _ _ h => h) rfl rfl (AllPlS.mem ⟨pl_ex, trivial⟩) ⟨rfl, rfl, trivial⟩ (by kernel_rfl) (fun w => ?_) ?_
   ·refine dw_o rfl (ok_move rfl) ?_
    refine dw_o rfl (ok_fieldAddrEx Try.runUnderlying27 rfl Try.sizeOf25 (by decide) rfl) ?_
    refine dw_o rfl (ok_loadB (k := 0) Try.isAgg25 rfl rfl rfl) ?_
    refine dw_o rfl (ok_callW0 (clone_ok m.rows (by omega) (fun x hx => by have := (hgm x hx).1; omega)) ⟨arg_a rfl (cv_id sub_refl), trivial⟩) ?_
    refine dw_o rfl (ok_fieldAddrEx Try.runUnderlying27 rfl Try.sizeOf3 (by decide) rfl) ?_
    refine dw_o rfl (ok_loadB (k := 0) Try.isAgg3 rfl rfl rfl) ?_
    exact ⟨rfl, ⟨rfl, trivial⟩⟩
   rintro ⟨r_3, c_3, Hs_3⟩ h30_3
   show Ent _ ⟨_ :: _, [_, _, _, _]⟩ _
   have hcl : Hs_3.length = m.rows.length := h30_3
   refine ent_open 22 1 false aH (fun _ => rfl) ?_
   refine ent_rows0 3 aInt ?_
   refine ent_pm 6 [5, 4, 0, 1, 3, 2] rfl (by decide) rfl ?_
   refine ent_callW (rs := [oBox b3_2 27 [aInt m.cols, aSl 1 false aInts m.rows], oBox b2_1 24 [aInt f.P, aInt f.M, aSl 1 false aInt f.mod]]) [] rfl (eliminate_ok f r_3 c_3 Hs_3 m.rows m.cols none 0 [] [] m.cols.toNat 0 ‹_› hcl rfl (.inl rfl) hgm (wide_nil 0) (by omega) (by omega) (by omega) (by omega) (by omega)) rfl rfl (.inl rfl) ⟨arg_a rfl (cv_id (sub_lent _)), arg_a rfl (cv_ex (congrArg (fun n => vec r_3 n c_3) (show Hs_3.length = Hs_3.length by rfl))), arg_a rfl (cv_id (sub_lent _)), arg_a rfl (cv_ex (congrArg (fun n => vec none n 0) (show 0 = [].length by rfl))), trivial⟩ ?_
   rintro ⟨Hn_5, Kn_5, rp_5, cp_5⟩ h33_5
   show Ent _ ⟨_ :: _, [_, _, _, _, _, _, _]⟩ _
   refine ent_pm 7 [6, 5, 1, 0, 2, 3, 4] rfl (by decide) rfl ?_
   refine emm rfl ?_
   refine ent_o rfl (ok_extract rfl rfl) ?_
   refine ent_o rfl (ok_extract rfl rfl) ?_
   refine emm rfl ?_
   refine enk K8 ?_
   refine ent_seq fun _ K9 => ?_
   refine esr rfl fun _ K10 => ?_
   refine ent_o rfl (ok_lenEx rfl Try.runUnderlying22 rfl) ?_
   refine ent_o rfl (ok_fieldAddrEx Try.runUnderlying27 rfl Try.sizeOf3 (by decide) rfl) ?_
   refine ent_o rfl (ok_loadB (k := 5) Try.isAgg3 rfl rfl rfl) ?_
   refine ent_o rfl (ok_lss rfl rfl) ?_
   refine enk K10 ?_
   refine ent_condD rfl (fun h40 => ?_) (fun h40 => ?_)
   ·refine esk rfl ?_
    refine ent_ret ?_
    exact retR2 (.inr rfl) Try.results37 (resr_tmp (res_cv rfl (cv_int (by exact (detV_rank hqk h40).symm)))) (resr_tmp (res_cv rfl (cv_int (by exact hqk.symm))))
   ·refine esp K9 ?_
    refine esk rfl ?_
    refine ent_ret ?_
    exact retR2 (.inr rfl) Try.results37 (resr_tmp (res_cv rfl (cv_int (by exact (detV_ok hqk h40).symm)))) (resr_tmp (res_cv rfl (cv_int (by exact hqk.symm))))
 ·refine ent_o rfl (ok_call (open_no f [(⟨m.cols, m.rows⟩ : Mat)] (by rw [opErr_one]; exact hm0)) rfl) ?_
  refine emm rfl ?_
  refine ent_o rfl (ok_extract rfl rfl) ?_
  refine ent_o rfl (ok_extract rfl rfl) ?_
  refine emm rfl ?_
  refine enk K2 ?_
  refine ent_seq fun _ K13 => ?_
  refine esr rfl fun _ K14 => ?_
  refine ent_o rfl (ok_neq rfl rfl) ?_
  refine enk K14 ?_
  refine ent_condD rfl (fun h18 => ?_) (fun h18 => ?_)
  ·have hqe : sqErr f m = mErr f m := sqErr_no hm0
   have hq0 : sqErr f m ≠ 0 := by rw [hqe]; exact hm0
   refine esk rfl ?_
   refine ent_ret ?_
   exact retR2 (.inr rfl) Try.results37 (resr_tmp (res_cv rfl (cv_int (by exact (detV_no hq0).symm)))) (resr_tmp (res_cv rfl (cv_int (by rw [hqe]; exact opErr_one f m))))
  ·exact absurd (Classical.not_not.1 h18) (by rw [opErr_one]; exact hm0)

theorem mInverse_ok (f : Fld) (m : Mat)  : Ctr Try.prog 35 [aFld f, aMat m] (aTup [aMat (invM f m), aInt (invE f m)]) := by
 refine ctr_of Try.call35 Try.func35 rfl rfl ?_
 intro w O
 refine ent_lenC 0 2 rfl rfl (fun hlen0_2 => ?_)
 refine ent_lenC 1 1 rfl rfl (fun hlen1_1 => ?_)
 refine esr rfl fun _ K1 => ?_
 refine ent_boxS rfl rfl (AllOne.mem ⟨(one_int _), (one_int _), one_sl, trivial⟩) (fun b2_1 => ?_)
 refine ent_boxS rfl rfl (AllOne.mem ⟨(one_int _), one_sl, trivial⟩) (fun b3_2 => ?_)
 refine ent_alloc (z := .agg #[.int .i64 0, .slice none 0 0]) [aInt 0, aEx (.slice none 0 0)] rfl zv27 rfl zc27 (fun b4_3 => ?_)
 refine emm rfl ?_
 refine enk K1 ?_
 refine esr rfl fun _ K2 => ?_
 refine ent_o rfl (ok_loadBS (k := 2) ti24 rfl rfl rfl) ?_
 refine ent_o rfl (ok_loadBS (k := 1) ti27 rfl rfl rfl) ?_
 refine ent_o rfl (ok_build1 (enc := aMat) (y := (⟨m.cols, m.rows⟩ : Mat)) vt67 rfl (elem_agg (AllOne.mem ⟨(one_int _), one_sl, trivial⟩)) (by decide)) ?_
 rcases Classical.em (mErr f m = 0) with hm0 | hm0
 ·refine ent_o rfl (ok_call (open_ok f [(⟨m.cols, m.rows⟩ : Mat)] (mErr_zero.1 hm0).1 (by intro q hq; simp only [List.mem_cons, List.not_mem_nil, or_false] at hq; subst hq; exact (mErr_zero.1 hm0).2) (by simp)) rfl) ?_
  refine emm rfl ?_
  refine ent_o rfl (ok_extract rfl rfl) ?_
  refine ent_o rfl (ok_extract rfl rfl) ?_
  refine emm rfl ?_
  refine enk K2 ?_
  refine ent_seq fun _ K3 => ?_
  refine esr rfl fun _ K4 => ?_
  refine ent_o rfl (ok_neq rfl rfl) ?_
  refine enk K4 ?_
  refine ent_condFP rfl (by decide) ?_
  refine esp K3 ?_
  refine ent_seq fun _ K5 => ?_
  refine ent_seq fun _ K6 => ?_
  have hF := (mErr_zero.1 hm0).1
  have hme := (mErr_zero.1 hm0).2
  have hsz := mat_size hme
  have hgm := mat_good hme
  refine ent_region ?_
  refine ent_o rfl (ok_fieldAddrEx Try.runUnderlying27 rfl Try.sizeOf25 (by decide) rfl) ?_
  refine ent_o rfl (ok_loadB (k := 1) Try.isAgg25 rfl rfl rfl) ?_
  refine ent_o rfl (ok_len rfl Try.runUnderlying25 rfl) ?_
  refine ent_o rfl (ok_fieldAddrEx Try.runUnderlying27 rfl Try.sizeOf3 (by decide) rfl) ?_
  refine ent_o rfl (ok_loadB (k := 1) Try.isAgg3 rfl rfl rfl) ?_
  refine ent_o rfl (ok_neq rfl rfl) ?_
  refine enk K6 ?_
  refine ent_condD rfl (fun h27 => ?_) (fun h27 => ?_)
  ·have hqe : invE f m = 3 := by rw [invE_no (by rw [sqErr_bad hm0 h27]; decide), sqErr_bad hm0 h27]
   have hq0 : invE f m ≠ 0 := by rw [hqe]; decide
   refine esr rfl fun _ K7 => ?_
   refine ent_o rfl (ok_build st27 (As := [aInt 0, aEx (.slice none 0 0)]) z27 (rfl)) ?_
   refine ent_storeBS (k := 0) Try.sizeOf27 rfl rfl rfl (AllOne.mem ⟨(one_int _), (one_ex rfl), trivial⟩) rfl rfl ?_
   show Ent _ ⟨_, [_, _, _]⟩ _
   refine emm rfl ?_
   refine enk K7 ?_
   refine ent_ret ?_
   exact retR2 (.inr rfl) Try.results35 (resr_cell (k := 0) ti27 rfl rfl rfl (cv_agg ⟨cv_int (by rw [invM_no hq0]; rfl), cv_nil (fun _ => rfl) (by rw [invM_no hq0]; rfl), trivial⟩)) (resr_tmp (res_cv rfl (cv_int (by exact hqe.symm))))
  ·have hqk := sqErr_ok hm0 h27
   have hsq : (m.rows.length : Int) = m.cols := Classical.not_not.1 h27
   have htx : traX f m = elim f m.rows (uni m.cols) m.cols.toNat := by unfold traX; rw [hsq]
   refine esp K5 ?_
   refine esr rfl fun _ K8 => ?_
   refine ent_o rfl (ok_fieldAddrEx Try.runUnderlying27 rfl Try.sizeOf3 (by decide) rfl) ?_
   refine ent_o rfl (ok_loadB (k := 1) Try.isAgg3 rfl rfl rfl) ?_
   refine ent_callW (rs := [oBox b4_3 27 [aInt 0, aEx (.slice none 0 0)], oBox b3_2 27 [aInt m.cols, aSl 1 false aInts m.rows], oBox b2_1 24 [aInt f.P, aInt f.M, aSl 1 false aInt f.mod]]) [] rfl (unit_ok m.cols (by omega) (by omega)) rfl rfl (.inl rfl) ⟨arg_a rfl (cv_id (sub_lent _)), trivial⟩ ?_
   rintro ⟨r_4, c_4, Hs_4⟩ h31_4
   show Ent _ ⟨_ :: _, [_, _, _, _, _]⟩ _
   have hun : Hs_4.length = m.cols.toNat := h31_4
   refine emm rfl ?_
   refine enk K8 ?_
   refine ent_seq fun _ K9 => ?_
   refine ent_drawW1M (φ := fun (y : Option Nat × Nat × List Hdr) => match y with | (r, c, Hs) => Hs.length = m.rows.length) (A := fun (y : Option Nat × Nat × List Hdr) => match y with | (r, c, Hs) => aEx (vec r Hs.length c)) (Ws := fun (y : Option Nat × Nat × List Hdr) => match y with | (r, c, Hs) => [oVec r c 22 1 false aH Hs, oRws 3 aInt [] Hs m.rows]) 7 [] [7, 8, 9, 10, 11, 12] 36 [(38, aInt m.cols), (39, aEx (vec r_4 Hs_4.length c_4))] [(3, aEx (.pointer (some ⟨b3_2, 0, none⟩))), (4, aEx (.pointer (some ⟨b4_3, 0, none⟩))), (8, aEx (vec r_4 Hs_4.length c_4)), (33, aGF f)] mixed rfl (by kernel_rfl) (by kernel_rfl) (by kernel_rfl) (by kernel_rfl) (by kernel_rfl) (by kernel_rfl) (by kernel_rfl) (by kernel_rfl) (by kernel_rfl) (fun _ _ _ _ _ h => h) rfl rfl (AllPlS.mem ⟨pl_ex, pl_ex, trivial⟩) ⟨rfl, rfl, rfl, rfl, trivial⟩ (by kernel_rfl) (fun w => ?_) ?_
   ·refine dw_o rfl (ok_move rfl) ?_
    refine dw_o rfl (ok_fieldAddrEx Try.runUnderlying27 rfl Try.sizeOf25 (by decide) rfl) ?_
    refine dw_o rfl (ok_loadB (k := 3) Try.isAgg25 rfl rfl rfl) ?_
    refine dw_o rfl (ok_callW0 (clone_ok m.rows (by omega) (fun x hx => by have := (hgm x hx).1; omega)) ⟨arg_a rfl (cv_id sub_refl), trivial⟩) ?_
    refine dw_o rfl (ok_fieldAddrEx Try.runUnderlying27 rfl Try.sizeOf3 (by decide) rfl) ?_
    refine dw_o rfl (ok_loadB (k := 3) Try.isAgg3 rfl rfl rfl) ?_
    refine dw_o rfl (ok_move rfl) ?_
    exact ⟨rfl, ⟨rfl, rfl, trivial⟩⟩
   rintro ⟨r_5, c_5, Hs_5⟩ h36_5
   show Ent _ ⟨_ :: _, [_, _, _, _, _, _, _]⟩ _
   have hcl : Hs_5.length = m.rows.length := h36_5
   have hyl := (length_elim f m.rows (uni m.cols) m.cols.toNat).2
   have hul := length_uni m.cols
   refine ent_callW (rs := [oBox b4_3 27 [aInt 0, aEx (.slice none 0 0)], oBox b3_2 27 [aInt m.cols, aSl 1 false aInts m.rows], oBox b2_1 24 [aInt f.P, aInt f.M, aSl 1 false aInt f.mod]]) [] rfl (eliminate_ok f r_5 c_5 Hs_5 m.rows m.cols r_4 c_4 Hs_4 (uni m.cols) m.cols.toNat m.cols.toNat ‹_› hcl (by rw [length_uni]; exact hun) (.inr (by rw [length_uni]; omega)) hgm (wide_uni _) (by omega) (by omega) (by omega) (by omega) (by omega)) rfl rfl (.inl rfl) ⟨arg_a rfl (cv_id (sub_lent _)), arg_a rfl (cv_ex (congrArg (fun n => vec r_5 n c_5) (show Hs_5.length = Hs_5.length by rfl))), arg_a rfl (cv_id (sub_lent _)), arg_a rfl (cv_ex (congrArg (fun n => vec r_4 n c_4) (show Hs_4.length = Hs_4.length by rfl))), trivial⟩ ?_
   rintro ⟨Hn_6, Kn_6, rp_6, cp_6⟩ h40_6
   show Ent _ ⟨_ :: _, [_, _, _, _, _, _, _, _]⟩ _
   refine ent_pm 8 [7, 6, 5, 3, 2, 1, 0, 4] rfl (by decide) rfl ?_
   refine emm rfl ?_
   refine ent_o rfl (ok_extract rfl rfl) ?_
   refine ent_o rfl (ok_extract rfl rfl) ?_
   refine emm rfl ?_
   refine enk K9 ?_
   refine ent_seq fun _ K10 => ?_
   refine esr rfl fun _ K11 => ?_
   refine ent_o rfl (ok_lenEx rfl Try.runUnderlying22 rfl) ?_
   refine ent_o rfl (ok_fieldAddrEx Try.runUnderlying27 rfl Try.sizeOf3 (by decide) rfl) ?_
   refine ent_o rfl (ok_loadB (k := 6) Try.isAgg3 rfl rfl rfl) ?_
   refine ent_o rfl (ok_lss rfl rfl) ?_
   refine enk K11 ?_
   refine ent_condD rfl (fun h47 => ?_) (fun h47 => ?_)
   ·have hqe : invE f m = 9 := invE_rank hqk (by rw [htx]; exact h47)
    have hq0 : invE f m ≠ 0 := by rw [hqe]; decide
    refine esr rfl fun _ K12 => ?_
    refine ent_o rfl (ok_build st27 (As := [aInt 0, aEx (.slice none 0 0)]) z27 (rfl)) ?_
    refine ent_storeBS (k := 5) Try.sizeOf27 rfl rfl rfl (AllOne.mem ⟨(one_int _), (one_ex rfl), trivial⟩) rfl rfl ?_
    show Ent _ ⟨_, [_, _, _, _, _, _, _, _]⟩ _
    refine emm rfl ?_
    refine enk K12 ?_
    refine ent_ret ?_
    exact retR2 (.inr rfl) Try.results35 (resr_cell (k := 5) ti27 rfl rfl rfl (cv_agg ⟨cv_int (by rw [invM_no hq0]; rfl), cv_nil (fun _ => rfl) (by rw [invM_no hq0]; rfl), trivial⟩)) (resr_tmp (res_cv rfl (cv_int (by exact hqe.symm))))
   ·have hik : invE f m = 0 := invE_ok hqk (by rw [htx]; exact h47)
    refine esp K10 ?_
    refine esr rfl fun _ K13 => ?_
    refine ent_o rfl (ok_fieldAddrEx Try.runUnderlying27 rfl Try.sizeOf3 (by decide) rfl) ?_
    refine ent_o rfl (ok_loadB (k := 6) Try.isAgg3 rfl rfl rfl) ?_
    refine emm rfl ?_
    refine ent_o rfl (ok_build st27 (As := [aInt 0, aEx (.slice none 0 0)]) z27 (⟨0, 1, rfl, .inl ⟨rfl, _, rfl, (one_int _), rfl, ⟨1, 1, rfl, .inl ⟨rfl, _, rfl, (one_ex rfl), rfl, rfl⟩⟩⟩⟩)) ?_
    refine ent_storeBS (k := 5) Try.sizeOf27 rfl rfl rfl (AllOne.mem ⟨(one_int _), (one_ex rfl), trivial⟩) rfl rfl ?_
    show Ent _ ⟨_, [_, _, _, _, _, _, _, _]⟩ _
    refine emm rfl ?_
    refine enk K13 ?_
    refine ent_ret ?_
    refine ent_frzRows 3 4 rfl rfl (by decide) ?_
    exact retR2 (.inr rfl) Try.results35 (resr_cell (k := 4) ti27 rfl rfl rfl (cv_agg ⟨cv_int (by rw [invM_ok hik]), cv_vec (k := 3) (off_x rfl) (by simp_all) (by rw [invM_ok hik, htx]), trivial⟩)) (resr_tmp (res_cv rfl (cv_int (by exact hik.symm))))
 ·refine ent_o rfl (ok_call (open_no f [(⟨m.cols, m.rows⟩ : Mat)] (by rw [opErr_one]; exact hm0)) rfl) ?_
  refine emm rfl ?_
  refine ent_o rfl (ok_extract rfl rfl) ?_
  refine ent_o rfl (ok_extract rfl rfl) ?_
  refine emm rfl ?_
  refine enk K2 ?_
  refine ent_seq fun _ K14 => ?_
  refine esr rfl fun _ K15 => ?_
  refine ent_o rfl (ok_neq rfl rfl) ?_
  refine enk K15 ?_
  refine ent_condD rfl (fun h19 => ?_) (fun h19 => ?_)
  ·have hqe : invE f m = mErr f m := by rw [invE_no (by rw [sqErr_no hm0]; exact hm0), sqErr_no hm0]
   have hq0 : invE f m ≠ 0 := by rw [hqe]; exact hm0
   refine esr rfl fun _ K16 => ?_
   refine ent_o rfl (ok_build st27 (As := [aInt 0, aEx (.slice none 0 0)]) z27 (rfl)) ?_
   refine emm rfl ?_
   refine ent_storeBS (k := 0) Try.sizeOf27 rfl rfl rfl (AllOne.mem ⟨(one_int _), (one_ex rfl), trivial⟩) rfl rfl ?_
   show Ent _ ⟨_, [_, _, _]⟩ _
   refine emm rfl ?_
   refine enk K16 ?_
   refine ent_ret ?_
   exact retR2 (.inr rfl) Try.results35 (resr_cell (k := 0) ti27 rfl rfl rfl (cv_agg ⟨cv_int (by rw [invM_no hq0]; rfl), cv_nil (fun _ => rfl) (by rw [invM_no hq0]; rfl), trivial⟩)) (resr_tmp (res_cv rfl (cv_int (by rw [hqe]; exact opErr_one f m))))
  ·exact absurd (Classical.not_not.1 h19) (by rw [opErr_one]; exact hm0)
end Go.Proofs.Ytamhdlkfhhpdpaa

