/-
  Check and Degrees, and the law ConvChecks.
-/
import Derived.Test.YtfjhbdfgbpcchaaProg
import Derived.Test.YtfjhbdfgbpcchaaTab
import Derived.Test.YtfjhbdfgbpcchaaPlainT
import Derived.Test.YtfjhbdfgbpcchaaFieldA
import Derived.Test.YtfjhbdfgbpcchaaFieldB
import Derived.Test.YtfjhbdfgbpcchaaFieldC
import Derived.Test.YtfjhbdfgbpcchaaPoly
import Derived.Test.YtfjhbdfgbpcchaaBuild
import Derived.Test.YtfjhbdfgbpcchaaRefC
open Go Go.Cw
namespace Go.Proofs.Ytfjhbdfgbpcchaa
set_option maxRecDepth 100000
set_option linter.unusedVariables false
set_option linter.unusedSimpArgs false
theorem Degrees_ok (c : Cnv) (hFew : c.Few) : Ctr Try.prog 17 [aCnv c] (aTup [aSl 1 false aInt c.degsE, aInt c.err]) := by
  refine ctr_of Try.call17 Try.func17 rfl rfl ?_
  intro w O
  refine ent_lenC 0 2 rfl rfl (fun hlen0_2 => ?_)
  refine ent_lenC 0 3 rfl rfl (fun hlen0_3 => ?_)
  refine ent_seq fun K1 hK1 => ?_
  refine ent_region ?_
  refine ent_boxS rfl rfl (AllOne.mem ⟨(one_int _), (one_int _), one_sl, one_sl, trivial⟩) (fun b1_1 => ?_)
  refine ent_o rfl (ok_assign rfl) ?_
  refine ent_o rfl (ok_assign rfl) ?_
  refine ent_nil ?_
  refine ent_k hK1 ?_
  refine ent_seq fun K2 hK2 => ?_
  refine ent_region ?_
  refine ent_o rfl (ok_loadBS (k := 0) ti27 rfl rfl rfl) ?_
  rcases Classical.em (c.Ok) with hOk | hOk
  · refine ent_o rfl (ok_call (build_ok c (by first | rfl | assumption | omega | (simp_all; done) | grind) hOk) rfl) ?_
    refine ent_o rfl (ok_move rfl) ?_
    refine ent_o rfl (ok_extract rfl rfl) ?_
    refine ent_o rfl (ok_extract rfl rfl) ?_
    refine ent_o rfl (ok_assign rfl) ?_
    refine ent_o rfl (ok_assign rfl) ?_
    refine ent_nil ?_
    refine ent_k hK2 ?_
    refine ent_seq fun K3 hK3 => ?_
    refine ent_seq fun K4 hK4 => ?_
    refine ent_region ?_
    refine ent_o rfl (ok_move rfl) ?_
    refine ent_o rfl (ok_neq rfl rfl) ?_
    refine ent_nil ?_
    refine ent_k hK4 ?_
    refine ent_condFP rfl (by decide) ?_
    refine ent_skip ?_
    refine ent_k hK3 ?_
    refine ent_seq fun K5 hK5 => ?_
    refine ent_region ?_
    refine ent_o rfl (ok_move rfl) ?_
    refine ent_o rfl (ok_nilCheck rfl) ?_
    refine ent_o rfl (ok_fieldAddr1 Try.runUnderlying84 rfl Try.sizeOf22 rfl rfl) ?_
    refine ent_o rfl (ok_load ti22 rfl) ?_
    refine ent_o rfl (ok_assign rfl) ?_
    refine ent_o rfl (ok_assign rfl) ?_
    refine ent_nil ?_
    refine ent_k hK5 ?_
    refine ent_ret ?_
    exact retR2 (.inr rfl) Try.results17 (resr_tmp (res_cv rfl (cv_sl sub_x (by first | exact (if_pos (Cnv.err_zero.2 hOk)).symm | exact (if_neg (fun h => hOk (Cnv.err_zero.1 h))).symm | rfl | exact (Cnv.err_zero.2 hOk).symm)))) (resr_tmp (res_cv rfl (cv_int (by first | exact (Cnv.err_zero.2 hOk).symm | rfl))))
  · refine ent_o rfl (ok_call (build_no c (by first | rfl | assumption | omega | (simp_all; done) | grind) hOk) rfl) ?_
    refine ent_o rfl (ok_move rfl) ?_
    refine ent_o rfl (ok_extract rfl rfl) ?_
    refine ent_o rfl (ok_extract rfl rfl) ?_
    refine ent_o rfl (ok_assign rfl) ?_
    refine ent_o rfl (ok_assign rfl) ?_
    refine ent_nil ?_
    refine ent_k hK2 ?_
    refine ent_seq fun K6 hK6 => ?_
    refine ent_seq fun K7 hK7 => ?_
    refine ent_region ?_
    refine ent_o rfl (ok_move rfl) ?_
    refine ent_o rfl (ok_neq rfl rfl) ?_
    refine ent_nil ?_
    refine ent_k hK7 ?_
    refine ent_condD rfl (fun h12 => ?_) (fun h12 => ?_)
    · refine ent_seq fun K8 hK8 => ?_
      refine ent_region ?_
      refine ent_o rfl (ok_move rfl) ?_
      refine ent_o rfl (ok_assign rfl) ?_
      refine ent_o rfl (ok_assign rfl) ?_
      refine ent_nil ?_
      refine ent_k hK8 ?_
      refine ent_ret ?_
      exact retR2 (.inr rfl) Try.results17 (resr_tmp (res_cv rfl (cv_nil (fun _ => rfl) (by first | exact (if_pos (Cnv.err_zero.2 hOk)).symm | exact (if_neg (fun h => hOk (Cnv.err_zero.1 h))).symm | rfl | exact (Cnv.err_zero.2 hOk).symm)))) (resr_tmp (res_cv rfl (cv_int (by first | exact (Cnv.err_zero.2 hOk).symm | rfl))))
    · exact absurd (Cnv.err_zero.1 (Classical.not_not.1 h12)) hOk

theorem CnvCheck_ok (c : Cnv) (hFew : c.Few) : Ctr Try.prog 19 [aCnv c] (aInt c.err) := by
  refine ctr_of Try.call19 Try.func19 rfl rfl ?_
  intro w O
  refine ent_lenC 0 2 rfl rfl (fun hlen0_2 => ?_)
  refine ent_lenC 0 3 rfl rfl (fun hlen0_3 => ?_)
  refine ent_seq fun K1 hK1 => ?_
  refine ent_region ?_
  refine ent_boxS rfl rfl (AllOne.mem ⟨(one_int _), (one_int _), one_sl, one_sl, trivial⟩) (fun b1_1 => ?_)
  refine ent_o rfl (ok_assign rfl) ?_
  refine ent_nil ?_
  refine ent_k hK1 ?_
  refine ent_seq fun K2 hK2 => ?_
  refine ent_region ?_
  refine ent_o rfl (ok_loadBS (k := 0) ti27 rfl rfl rfl) ?_
  rcases Classical.em (c.Ok) with hOk | hOk
  · refine ent_o rfl (ok_call (build_ok c (by first | rfl | assumption | omega | (simp_all; done) | grind) hOk) rfl) ?_
    refine ent_o rfl (ok_move rfl) ?_
    refine ent_o rfl (ok_extract rfl rfl) ?_
    refine ent_o rfl (ok_extract rfl rfl) ?_
    refine ent_o rfl (ok_assign rfl) ?_
    refine ent_o rfl (ok_assign rfl) ?_
    refine ent_nil ?_
    refine ent_k hK2 ?_
    refine ent_seq fun K3 hK3 => ?_
    refine ent_region ?_
    refine ent_o rfl (ok_move rfl) ?_
    refine ent_o rfl (ok_assign rfl) ?_
    refine ent_nil ?_
    refine ent_k hK3 ?_
    refine ent_ret ?_
    exact retR1 (.inr rfl) Try.results19 (resr_tmp (res_cv rfl (cv_int (by first | rfl | exact (Cnv.err_zero.2 hOk).symm))))
  · refine ent_o rfl (ok_call (build_no c (by first | rfl | assumption | omega | (simp_all; done) | grind) hOk) rfl) ?_
    refine ent_o rfl (ok_move rfl) ?_
    refine ent_o rfl (ok_extract rfl rfl) ?_
    refine ent_o rfl (ok_extract rfl rfl) ?_
    refine ent_o rfl (ok_assign rfl) ?_
    refine ent_o rfl (ok_assign rfl) ?_
    refine ent_nil ?_
    refine ent_k hK2 ?_
    refine ent_seq fun K4 hK4 => ?_
    refine ent_region ?_
    refine ent_o rfl (ok_move rfl) ?_
    refine ent_o rfl (ok_assign rfl) ?_
    refine ent_nil ?_
    refine ent_k hK4 ?_
    refine ent_ret ?_
    exact retR1 (.inr rfl) Try.results19 (resr_tmp (res_cv rfl (cv_int (by first | rfl | exact (Cnv.err_zero.2 hOk).symm))))

theorem ConvChecks_ok (c : Cnv)  : Ctr Try.prog 3 [aCnv c] (aBool true) := by
  refine ctr_of Try.call3 Try.func3 rfl rfl ?_
  intro w O
  refine ent_lenC 0 2 rfl rfl (fun hlen0_2 => ?_)
  refine ent_lenC 0 3 rfl rfl (fun hlen0_3 => ?_)
  refine ent_seq fun K1 hK1 => ?_
  refine ent_region ?_
  refine ent_boxS rfl rfl (AllOne.mem ⟨(one_int _), (one_int _), one_sl, one_sl, trivial⟩) (fun b1_1 => ?_)
  refine ent_o rfl (ok_assign rfl) ?_
  refine ent_nil ?_
  refine ent_k hK1 ?_
  refine ent_seq fun K2 hK2 => ?_
  refine ent_seq fun K3 hK3 => ?_
  refine ent_region ?_
  refine ent_o rfl (ok_loadBS (k := 0) ti27 rfl rfl rfl) ?_
  refine ent_o rfl (ok_call (few_ok c) rfl) ?_
  refine ent_o rfl (ok_notD rfl) ?_
  refine ent_nil ?_
  refine ent_k hK3 ?_
  refine ent_condD rfl (fun h8 => ?_) (fun h8 => ?_)
  · refine ent_seq fun K4 hK4 => ?_
    refine ent_region ?_
    refine ent_o rfl (ok_assign rfl) ?_
    refine ent_nil ?_
    refine ent_k hK4 ?_
    refine ent_ret ?_
    exact retR1 (.inr rfl) Try.results3 (resr_tmp (res_cv rfl (cv_bool (by first | rfl | exact decide_eq_true ⟨⟨rfl, rfl⟩, by unfold Cnv.degsE; rw [if_neg h17]; rfl⟩ | exact decide_eq_true ⟨⟨Classical.not_not.1 h17, Classical.not_not.1 h17⟩, if_pos (Classical.not_not.1 h17)⟩))))
  · have hFew := (Classical.not_not.1 h8).1
    refine ent_skip ?_
    refine ent_k hK2 ?_
    refine ent_seq fun K5 hK5 => ?_
    refine ent_region ?_
    refine ent_o rfl (ok_loadBS (k := 0) ti27 rfl rfl rfl) ?_
    refine ent_o rfl (ok_call (Degrees_ok c (by first | rfl | assumption | omega | (simp_all; done) | grind)) rfl) ?_
    refine ent_o rfl (ok_move rfl) ?_
    refine ent_o rfl (ok_extract rfl rfl) ?_
    refine ent_o rfl (ok_extract rfl rfl) ?_
    refine ent_o rfl (ok_assign rfl) ?_
    refine ent_o rfl (ok_assign rfl) ?_
    refine ent_nil ?_
    refine ent_k hK5 ?_
    refine ent_seq fun K6 hK6 => ?_
    refine ent_region ?_
    refine ent_o rfl (ok_loadBS (k := 0) ti27 rfl rfl rfl) ?_
    refine ent_o rfl (ok_call (rCnvCheck_ok c (by first | rfl | assumption | omega | (simp_all; done) | grind)) rfl) ?_
    refine ent_o rfl (ok_assign rfl) ?_
    refine ent_nil ?_
    refine ent_k hK6 ?_
    refine ent_seq fun K7 hK7 => ?_
    refine ent_seq fun K8 hK8 => ?_
    refine ent_region ?_
    refine ent_o rfl (ok_move rfl) ?_
    refine ent_o rfl (ok_neq rfl rfl) ?_
    refine ent_nil ?_
    refine ent_k hK8 ?_
    refine ent_condD rfl (fun h17 => ?_) (fun h17 => ?_)
    · refine ent_seq fun K9 hK9 => ?_
      refine ent_cut (⟨[(2, aBool (decide (((c.err = c.err) ∧ (c.err = c.err)) ∧ ((↑c.degsE.length : Int) = 0))))], [oBox b1_1 27 [aInt c.F.P, aInt c.F.M, aSl 1 false aInt c.F.mod, aSl 1 false aRows c.Gen]]⟩) ?_ ?_
      · refine ent_region ?_
        refine ent_o rfl (ok_loadBS (k := 0) ti27 rfl rfl rfl) ?_
        refine ent_o rfl (ok_call (CnvCheck_ok c (by first | rfl | assumption | omega | (simp_all; done) | grind)) rfl) ?_
        refine ent_o rfl (ok_move rfl) ?_
        refine ent_o rfl (ok_eql rfl rfl) ?_
        refine ent_o rfl (ok_move rfl) ?_
        refine ent_guardXDt rfl rfl rfl rfl (fun hg22 => ?_) (fun hg22 => ?_)
        · refine ent_o rfl (ok_move rfl) ?_
          refine ent_guardXT rfl rfl rfl rfl (decide_eq_true hg22) ?_
          refine ent_o rfl (ok_move rfl) ?_
          refine ent_guardXT rfl rfl rfl rfl (decide_eq_true hg22) ?_
          refine ent_o rfl (ok_eql rfl rfl) ?_
          refine ent_o rfl (ok_pickT rfl (decide_eq_true hg22) rfl) ?_
          refine ent_o rfl (ok_move rfl) ?_
          refine ent_guardXDt rfl rfl rfl rfl (fun hg27 => ?_) (fun hg27 => ?_)
          · refine ent_o rfl (ok_move rfl) ?_
            refine ent_guardXT rfl rfl rfl rfl (decide_eq_true hg27) ?_
            refine ent_o rfl (ok_len rfl Try.runUnderlying22 rfl) ?_
            refine ent_guardXT rfl rfl rfl rfl (decide_eq_true hg27) ?_
            refine ent_o rfl (ok_eql rfl rfl) ?_
            refine ent_o rfl (ok_pickT rfl (decide_eq_true hg27) rfl) ?_
            refine ent_o rfl (ok_assign rfl) ?_
            refine ent_nil ?_
            exact ent_rep ⟨slot_bool (dq_Q ((and_iff_right ⟨hg27, hg27⟩).trans Iff.rfl)), trivial⟩ rfl
          · refine ent_guardXF rfl rfl rfl rfl (decide_eq_false hg27) ?_
            refine ent_guardXF rfl rfl rfl rfl (decide_eq_false hg27) ?_
            refine ent_o rfl (ok_pickF rfl (decide_eq_false hg27) rfl) ?_
            refine ent_o rfl (ok_assign rfl) ?_
            refine ent_nil ?_
            exact ent_rep ⟨slot_bool (dq_F rfl (fun h => (fun h => hg27 h.1) h.1)), trivial⟩ rfl
        · refine ent_guardXF rfl rfl rfl rfl (decide_eq_false hg22) ?_
          refine ent_guardXF rfl rfl rfl rfl (decide_eq_false hg22) ?_
          refine ent_o rfl (ok_pickF rfl (decide_eq_false hg22) rfl) ?_
          refine ent_o rfl (ok_move rfl) ?_
          refine ent_guardXF rfl rfl rfl rfl rfl ?_
          refine ent_guardXF rfl rfl rfl rfl rfl ?_
          refine ent_guardXF rfl rfl rfl rfl rfl ?_
          refine ent_o rfl (ok_pickF rfl rfl rfl) ?_
          refine ent_o rfl (ok_assign rfl) ?_
          refine ent_nil ?_
          exact ent_rep ⟨slot_bool (dq_F rfl (fun h => (fun h => hg22 h.1) h.1)), trivial⟩ rfl
      refine ent_k hK9 ?_
      refine ent_ret ?_
      exact retR1 (.inr rfl) Try.results3 (resr_tmp (res_cv rfl (cv_bool (by first | rfl | exact decide_eq_true ⟨⟨rfl, rfl⟩, by unfold Cnv.degsE; rw [if_neg h17]; rfl⟩ | exact decide_eq_true ⟨⟨Classical.not_not.1 h17, Classical.not_not.1 h17⟩, if_pos (Classical.not_not.1 h17)⟩))))
    · refine ent_skip ?_
      refine ent_k hK7 ?_
      refine ent_seq fun K10 hK10 => ?_
      refine ent_cut (⟨[(2, aBool (decide (((c.err = 0) ∧ (c.err = 0)) ∧ (c.degsE = c.degs))))], [oBox b1_1 27 [aInt c.F.P, aInt c.F.M, aSl 1 false aInt c.F.mod, aSl 1 false aRows c.Gen]]⟩) ?_ ?_
      · refine ent_region ?_
        refine ent_o rfl (ok_loadBS (k := 0) ti27 rfl rfl rfl) ?_
        refine ent_o rfl (ok_call (CnvCheck_ok c (by first | rfl | assumption | omega | (simp_all; done) | grind)) rfl) ?_
        refine ent_o rfl (ok_eql rfl rfl) ?_
        refine ent_o rfl (ok_move rfl) ?_
        refine ent_guardXDt rfl rfl rfl rfl (fun hg35 => ?_) (fun hg35 => ?_)
        · refine ent_o rfl (ok_move rfl) ?_
          refine ent_guardXT rfl rfl rfl rfl (decide_eq_true hg35) ?_
          refine ent_o rfl (ok_eql rfl rfl) ?_
          refine ent_o rfl (ok_pickT rfl (decide_eq_true hg35) rfl) ?_
          refine ent_o rfl (ok_move rfl) ?_
          refine ent_guardXDt rfl rfl rfl rfl (fun hg39 => ?_) (fun hg39 => ?_)
          · refine ent_o rfl (ok_move rfl) ?_
            refine ent_guardXT rfl rfl rfl rfl (decide_eq_true hg39) ?_
            refine ent_o rfl (ok_loadBS (k := 0) ti27 rfl rfl rfl) ?_
            refine ent_guardXT rfl rfl rfl rfl (decide_eq_true hg39) ?_
            refine ent_o rfl (ok_call (rDegrees_ok c (by first | rfl | assumption | omega | (simp_all; done) | grind)) rfl) ?_
            refine ent_guardXT rfl rfl rfl rfl (decide_eq_true hg39) ?_
            refine ent_o rfl (ok_call (SameInts_ok c.degsE c.degs) rfl) ?_
            refine ent_o rfl (ok_pickT rfl (decide_eq_true hg39) rfl) ?_
            refine ent_o rfl (ok_assign rfl) ?_
            refine ent_nil ?_
            exact ent_rep ⟨slot_bool (dq_Q ((and_iff_right ⟨hg39, hg39⟩).trans Iff.rfl)), trivial⟩ rfl
          · refine ent_guardXF rfl rfl rfl rfl (decide_eq_false hg39) ?_
            refine ent_guardXF rfl rfl rfl rfl (decide_eq_false hg39) ?_
            refine ent_guardXF rfl rfl rfl rfl (decide_eq_false hg39) ?_
            refine ent_o rfl (ok_pickF rfl (decide_eq_false hg39) rfl) ?_
            refine ent_o rfl (ok_assign rfl) ?_
            refine ent_nil ?_
            exact ent_rep ⟨slot_bool (dq_F rfl (fun h => (fun h => hg39 h.1) h.1)), trivial⟩ rfl
        · refine ent_guardXF rfl rfl rfl rfl (decide_eq_false hg35) ?_
          refine ent_o rfl (ok_pickF rfl (decide_eq_false hg35) rfl) ?_
          refine ent_o rfl (ok_move rfl) ?_
          refine ent_guardXF rfl rfl rfl rfl rfl ?_
          refine ent_guardXF rfl rfl rfl rfl rfl ?_
          refine ent_guardXF rfl rfl rfl rfl rfl ?_
          refine ent_guardXF rfl rfl rfl rfl rfl ?_
          refine ent_o rfl (ok_pickF rfl rfl rfl) ?_
          refine ent_o rfl (ok_assign rfl) ?_
          refine ent_nil ?_
          exact ent_rep ⟨slot_bool (dq_F rfl (fun h => (fun h => hg35 h.1) h.1)), trivial⟩ rfl
      refine ent_k hK10 ?_
      refine ent_ret ?_
      exact retR1 (.inr rfl) Try.results3 (resr_tmp (res_cv rfl (cv_bool (by first | rfl | exact decide_eq_true ⟨⟨rfl, rfl⟩, by unfold Cnv.degsE; rw [if_neg h17]; rfl⟩ | exact decide_eq_true ⟨⟨Classical.not_not.1 h17, Classical.not_not.1 h17⟩, if_pos (Classical.not_not.1 h17)⟩))))
end Go.Proofs.Ytfjhbdfgbpcchaa
