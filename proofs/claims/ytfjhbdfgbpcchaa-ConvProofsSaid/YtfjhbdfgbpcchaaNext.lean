/-
  Next.
-/
import Derived.Test.YtfjhbdfgbpcchaaProg
import Derived.Test.YtfjhbdfgbpcchaaTab
import Derived.Test.YtfjhbdfgbpcchaaCy
import Derived.Test.YtfjhbdfgbpcchaaPlainO
import Derived.Test.YtfjhbdfgbpcchaaFieldA
import Derived.Test.YtfjhbdfgbpcchaaFieldB
import Derived.Test.YtfjhbdfgbpcchaaFieldC
import Derived.Test.YtfjhbdfgbpcchaaFieldE
import Derived.Test.YtfjhbdfgbpcchaaPoly
import Derived.Test.YtfjhbdfgbpcchaaBuild
import Derived.Test.YtfjhbdfgbpcchaaRefC
import Derived.Test.YtfjhbdfgbpcchaaStep
import Derived.Test.YtfjhbdfgbpcchaaRefN
open Go Go.Cw
namespace Go.Proofs.Ytfjhbdfgbpcchaa
set_option maxRecDepth 100000
set_option linter.unusedVariables false
set_option linter.unusedSimpArgs false
theorem Next_ok (c : Cnv) (s : Int) (l : List Int) (hFew : c.Few) : Ctr Try.prog 22 [aCnv c, aInt s, aSl 1 false aInt l] (aTup [aInt (c.nxSt s l), aSl 1 false aInt (c.nxOut s l), aInt (c.nxErr s l)]) := by
  refine ctr_of Try.call22 Try.func22 rfl rfl ?_
  intro w O
  refine ent_lenC 0 2 rfl rfl (fun hlen0_2 => ?_)
  refine ent_lenC 0 3 rfl rfl (fun hlen0_3 => ?_)
  refine ent_len 2 rfl (fun hlen2 => ?_)
  refine ent_seq fun K1 hK1 => ?_
  refine ent_region ?_
  refine ent_boxS rfl rfl (AllOne.mem ⟨(one_int _), (one_int _), one_sl, one_sl, trivial⟩) (fun b3_1 => ?_)
  refine ent_o rfl (ok_assign rfl) ?_
  refine ent_o rfl (ok_assign rfl) ?_
  refine ent_o rfl (ok_assign rfl) ?_
  refine ent_nil ?_
  refine ent_k hK1 ?_
  refine ent_seq fun K2 hK2 => ?_
  refine ent_region ?_
  refine ent_o rfl (ok_loadBS (k := 0) ti27 rfl rfl rfl) ?_
  rcases Classical.em (c.Ok) with hOk | hOk
  · refine ent_o rfl (ok_call (build_ok c (by first | rfl | assumption | omega | (simp_all; done) | grind) hOk) rfl) ?_
    refine ent_o rfl (ok_move rfl) ?_
    refine ent_o rfl (ok_extract rfl rfl) ?_
    refine ent_o rfl (ok_extract rfl rfl) ?_
    refine ent_o rfl (ok_assign rfl) ?_
    refine ent_o rfl (ok_assign rfl) ?_
    refine ent_nil ?_
    refine ent_k hK2 ?_
    refine ent_seq fun K3 hK3 => ?_
    refine ent_seq fun K4 hK4 => ?_
    refine ent_region ?_
    refine ent_o rfl (ok_move rfl) ?_
    refine ent_o rfl (ok_neq rfl rfl) ?_
    refine ent_nil ?_
    refine ent_k hK4 ?_
    refine ent_condFP rfl (by decide) ?_
    refine ent_skip ?_
    refine ent_k hK3 ?_
    refine ent_seq fun K5 hK5 => ?_
    refine ent_seq fun K6 hK6 => ?_
    refine ent_cut (⟨[(1, aInt s), (2, aSl 1 false aInt l), (9, aMach c), (28, aBool (decide ((s < 0) ∨ (c.states ≤ s))))], [oBox b3_1 27 [aInt c.F.P, aInt c.F.M, aSl 1 false aInt c.F.mod, aSl 1 false aRows c.Gen]]⟩) ?_ ?_
    · refine ent_region ?_
      refine ent_o rfl (ok_move rfl) ?_
      refine ent_o rfl (ok_lss rfl rfl) ?_
      refine ent_o rfl (ok_move rfl) ?_
      refine ent_guardXDf rfl rfl rfl rfl (fun hg21 => ?_) (fun hg21 => ?_)
      · refine ent_o rfl (ok_move rfl) ?_
        refine ent_guardXT rfl rfl rfl rfl (decide_eq_false hg21) ?_
        refine ent_o rfl (ok_move rfl) ?_
        refine ent_guardXT rfl rfl rfl rfl (decide_eq_false hg21) ?_
        refine ent_o rfl (ok_nilCheck rfl) ?_
        refine ent_guardXT rfl rfl rfl rfl (decide_eq_false hg21) ?_
        refine ent_o rfl (ok_fieldAddr1 Try.runUnderlying84 rfl Try.sizeOf3 rfl rfl) ?_
        refine ent_guardXT rfl rfl rfl rfl (decide_eq_false hg21) ?_
        refine ent_o rfl (ok_load ti3 rfl) ?_
        refine ent_guardXT rfl rfl rfl rfl (decide_eq_false hg21) ?_
        refine ent_o rfl (ok_geq rfl rfl) ?_
        refine ent_o rfl (ok_pickF rfl (decide_eq_false hg21) rfl) ?_
        refine ent_nil ?_
        exact ent_rep ⟨rfl, rfl, rfl, slot_bool (dq_Q ((or_iff_right hg21).trans Iff.rfl)), trivial⟩ rfl
      · refine ent_guardXF rfl rfl rfl rfl (decide_eq_true hg21) ?_
        refine ent_guardXF rfl rfl rfl rfl (decide_eq_true hg21) ?_
        refine ent_guardXF rfl rfl rfl rfl (decide_eq_true hg21) ?_
        refine ent_guardXF rfl rfl rfl rfl (decide_eq_true hg21) ?_
        refine ent_guardXF rfl rfl rfl rfl (decide_eq_true hg21) ?_
        refine ent_o rfl (ok_pickT rfl (decide_eq_true hg21) rfl) ?_
        refine ent_nil ?_
        exact ent_rep ⟨rfl, rfl, rfl, slot_bool (dq_T rfl (Or.inl hg21)), trivial⟩ rfl
    refine ent_k hK6 ?_
    refine ent_condD rfl (fun h28 => ?_) (fun h28 => ?_)
    · have h0 := Cnv.err_zero.2 hOk
      have he : c.nxErr s l = 6 := by unfold Cnv.nxErr; rw [if_pos h0, if_pos h28]
      refine ent_seq fun K7 hK7 => ?_
      refine ent_region ?_
      refine ent_o rfl (ok_assign rfl) ?_
      refine ent_o rfl (ok_assign rfl) ?_
      refine ent_o rfl (ok_assign rfl) ?_
      refine ent_nil ?_
      refine ent_k hK7 ?_
      refine ent_ret ?_
      exact retR3 (.inr rfl) Try.results22 (resr_tmp (res_cv rfl (cv_int (by exact (if_neg (by rw [he]; omega)).symm)))) (resr_tmp (res_cv rfl (cv_nil (fun _ => rfl) (by exact (if_neg (by rw [he]; omega)).symm)))) (resr_tmp (res_cv rfl (cv_int (by exact he.symm))))
    · have h0 := Cnv.err_zero.2 hOk
      have he : c.nxErr s l = c.inErr l := by unfold Cnv.nxErr; rw [if_pos h0, if_neg h28]
      have hs : 0 ≤ s ∧ s < c.states := by omega
      refine ent_skip ?_
      refine ent_k hK5 ?_
      refine ent_seq fun K8 hK8 => ?_
      refine ent_seq fun K9 hK9 => ?_
      refine ent_region ?_
      refine ent_o rfl (ok_move rfl) ?_
      refine ent_o rfl (ok_move rfl) ?_
      refine ent_o rfl (ok_call (input_ok c l) rfl) ?_
      refine ent_o rfl (ok_assign rfl) ?_
      refine ent_nil ?_
      refine ent_k hK9 ?_
      refine ent_seq fun K10 hK10 => ?_
      refine ent_region ?_
      refine ent_o rfl (ok_move rfl) ?_
      refine ent_o rfl (ok_neq rfl rfl) ?_
      refine ent_nil ?_
      refine ent_k hK10 ?_
      refine ent_condD rfl (fun h33 => ?_) (fun h33 => ?_)
      · refine ent_seq fun K11 hK11 => ?_
        refine ent_region ?_
        refine ent_o rfl (ok_move rfl) ?_
        refine ent_o rfl (ok_assign rfl) ?_
        refine ent_o rfl (ok_assign rfl) ?_
        refine ent_o rfl (ok_assign rfl) ?_
        refine ent_nil ?_
        refine ent_k hK11 ?_
        refine ent_ret ?_
        exact retR3 (.inr rfl) Try.results22 (resr_tmp (res_cv rfl (cv_int (by exact (if_neg (by rw [he]; exact h33)).symm)))) (resr_tmp (res_cv rfl (cv_nil (fun _ => rfl) (by exact (if_neg (by rw [he]; exact h33)).symm)))) (resr_tmp (res_cv rfl (cv_int (by exact he.symm))))
      · have hgi := Cnv.inErr_zero.1 (Classical.not_not.1 h33)
        have hz : c.nxErr s l = 0 := by rw [he]; exact Classical.not_not.1 h33
        refine ent_skip ?_
        refine ent_k hK8 ?_
        refine ent_seq fun K12 hK12 => ?_
        refine ent_region ?_
        refine ent_o rfl (ok_move rfl) ?_
        refine ent_o rfl (ok_move rfl) ?_
        refine ent_o rfl (ok_move rfl) ?_
        refine ent_o rfl (ok_call (CtrF.ctr (step_ok c s l (by first | rfl | assumption | omega | (simp_all; done) | grind) (by first | rfl | assumption | omega | (simp_all; done) | grind) hs.1 hs.2 hgi)) rfl) ?_
        refine ent_o rfl (ok_move rfl) ?_
        refine ent_o rfl (ok_extract rfl rfl) ?_
        refine ent_o rfl (ok_extract rfl rfl) ?_
        refine ent_o rfl (ok_assign rfl) ?_
        refine ent_o rfl (ok_assign rfl) ?_
        refine ent_nil ?_
        refine ent_k hK12 ?_
        refine ent_seq fun K13 hK13 => ?_
        refine ent_region ?_
        refine ent_o rfl (ok_move rfl) ?_
        refine ent_o rfl (ok_move rfl) ?_
        refine ent_o rfl (ok_assign rfl) ?_
        refine ent_o rfl (ok_assign rfl) ?_
        refine ent_o rfl (ok_assign rfl) ?_
        refine ent_nil ?_
        refine ent_k hK13 ?_
        refine ent_ret ?_
        exact retR3 (.inr rfl) Try.results22 (resr_tmp (res_cv rfl (cv_int (by exact (if_pos hz).symm)))) (resr_tmp (res_cv rfl (cv_sl sub_x (by exact (if_pos hz).symm)))) (resr_tmp (res_cv rfl (cv_int (by exact hz.symm))))
  · refine ent_o rfl (ok_call (build_no c (by first | rfl | assumption | omega | (simp_all; done) | grind) hOk) rfl) ?_
    refine ent_o rfl (ok_move rfl) ?_
    refine ent_o rfl (ok_extract rfl rfl) ?_
    refine ent_o rfl (ok_extract rfl rfl) ?_
    refine ent_o rfl (ok_assign rfl) ?_
    refine ent_o rfl (ok_assign rfl) ?_
    refine ent_nil ?_
    refine ent_k hK2 ?_
    refine ent_seq fun K14 hK14 => ?_
    refine ent_seq fun K15 hK15 => ?_
    refine ent_region ?_
    refine ent_o rfl (ok_move rfl) ?_
    refine ent_o rfl (ok_neq rfl rfl) ?_
    refine ent_nil ?_
    refine ent_k hK15 ?_
    refine ent_condD rfl (fun h17 => ?_) (fun h17 => ?_)
    · have he : c.nxErr s l = c.err := if_neg h17
      refine ent_seq fun K16 hK16 => ?_
      refine ent_region ?_
      refine ent_o rfl (ok_move rfl) ?_
      refine ent_o rfl (ok_assign rfl) ?_
      refine ent_o rfl (ok_assign rfl) ?_
      refine ent_o rfl (ok_assign rfl) ?_
      refine ent_nil ?_
      refine ent_k hK16 ?_
      refine ent_ret ?_
      exact retR3 (.inr rfl) Try.results22 (resr_tmp (res_cv rfl (cv_int (by exact (if_neg (by rw [he]; exact h17)).symm)))) (resr_tmp (res_cv rfl (cv_nil (fun _ => rfl) (by exact (if_neg (by rw [he]; exact h17)).symm)))) (resr_tmp (res_cv rfl (cv_int (by exact he.symm))))
    · exact absurd (Cnv.err_zero.1 (Classical.not_not.1 h17)) hOk

theorem ConvNext_ok (c : Cnv) (s : Int) (l : List Int)  : Ctr Try.prog 4 [aCnv c, aInt s, aSl 1 false aInt l] (aBool true) := by
  refine ctr_of Try.call4 Try.func4 rfl rfl ?_
  intro w O
  refine ent_lenC 0 2 rfl rfl (fun hlen0_2 => ?_)
  refine ent_lenC 0 3 rfl rfl (fun hlen0_3 => ?_)
  refine ent_len 2 rfl (fun hlen2 => ?_)
  refine ent_seq fun K1 hK1 => ?_
  refine ent_region ?_
  refine ent_boxS rfl rfl (AllOne.mem ⟨(one_int _), (one_int _), one_sl, one_sl, trivial⟩) (fun b3_1 => ?_)
  refine ent_o rfl (ok_assign rfl) ?_
  refine ent_nil ?_
  refine ent_k hK1 ?_
  refine ent_seq fun K2 hK2 => ?_
  refine ent_seq fun K3 hK3 => ?_
  refine ent_region ?_
  refine ent_o rfl (ok_loadBS (k := 0) ti27 rfl rfl rfl) ?_
  refine ent_o rfl (ok_call (few_ok c) rfl) ?_
  refine ent_o rfl (ok_notD rfl) ?_
  refine ent_nil ?_
  refine ent_k hK3 ?_
  refine ent_condD rfl (fun h15 => ?_) (fun h15 => ?_)
  · refine ent_seq fun K4 hK4 => ?_
    refine ent_region ?_
    refine ent_o rfl (ok_assign rfl) ?_
    refine ent_nil ?_
    refine ent_k hK4 ?_
    refine ent_ret ?_
    exact retR1 (.inr rfl) Try.results4 (resr_tmp (res_cv rfl (cv_bool (by first | rfl | exact decide_eq_true ⟨⟨hz, if_pos hz⟩, if_pos hz⟩ | exact decide_eq_true ⟨⟨he, if_neg hne⟩, by rw [show c.nxOut s l = [] from if_neg hne]; rfl⟩))))
  · have hFew := (Classical.not_not.1 h15).1
    refine ent_skip ?_
    refine ent_k hK2 ?_
    refine ent_seq fun K5 hK5 => ?_
    refine ent_region ?_
    refine ent_o rfl (ok_loadBS (k := 0) ti27 rfl rfl rfl) ?_
    refine ent_o rfl (ok_move rfl) ?_
    refine ent_o rfl (ok_move rfl) ?_
    refine ent_o rfl (ok_call (Next_ok c s l (by first | rfl | assumption | omega | (simp_all; done) | grind)) rfl) ?_
    refine ent_o rfl (ok_move rfl) ?_
    refine ent_o rfl (ok_extract rfl rfl) ?_
    refine ent_o rfl (ok_extract rfl rfl) ?_
    refine ent_o rfl (ok_extract rfl rfl) ?_
    refine ent_o rfl (ok_assign rfl) ?_
    refine ent_o rfl (ok_assign rfl) ?_
    refine ent_o rfl (ok_assign rfl) ?_
    refine ent_nil ?_
    refine ent_k hK5 ?_
    refine ent_seq fun K6 hK6 => ?_
    refine ent_region ?_
    refine ent_o rfl (ok_loadBS (k := 0) ti27 rfl rfl rfl) ?_
    refine ent_o rfl (ok_call (rCnvCheck_ok c (by first | rfl | assumption | omega | (simp_all; done) | grind)) rfl) ?_
    refine ent_o rfl (ok_assign rfl) ?_
    refine ent_nil ?_
    refine ent_k hK6 ?_
    refine ent_seq fun K7 hK7 => ?_
    refine ent_seq fun K8 hK8 => ?_
    refine ent_cut (⟨[(1, aInt s), (2, aSl 1 false aInt l), (3, aEx (.pointer (some ⟨b3_1, 0, none⟩))), (7, aInt (c.nxSt s l)), (8, aSl 1 false aInt (c.nxOut s l)), (9, aInt (c.nxErr s l)), (10, aInt c.err), (37, aBool (decide ((c.err = 0) ∧ ((s < 0) ∨ (c.states ≤ s)))))], [oBox b3_1 27 [aInt c.F.P, aInt c.F.M, aSl 1 false aInt c.F.mod, aSl 1 false aRows c.Gen]]⟩) ?_ ?_
    · refine ent_region ?_
      refine ent_o rfl (ok_move rfl) ?_
      refine ent_o rfl (ok_eql rfl rfl) ?_
      refine ent_o rfl (ok_move rfl) ?_
      refine ent_guardXDt rfl rfl rfl rfl (fun hg28 => ?_) (fun hg28 => ?_)
      · have hOk := Cnv.err_zero.1 hg28
        refine ent_o rfl (ok_move rfl) ?_
        refine ent_guardXT rfl rfl rfl rfl (decide_eq_true hg28) ?_
        refine ent_o rfl (ok_lss rfl rfl) ?_
        refine ent_guardXT rfl rfl rfl rfl (decide_eq_true hg28) ?_
        refine ent_o rfl (ok_move rfl) ?_
        refine ent_guardXDf rfl rfl rfl rfl (fun hg31 => ?_) (fun hg31 => ?_)
        · refine ent_o rfl (ok_move rfl) ?_
          refine ent_guardXT rfl rfl rfl rfl (decide_eq_false hg31) ?_
          refine ent_o rfl (ok_loadBS (k := 0) ti27 rfl rfl rfl) ?_
          refine ent_guardXT rfl rfl rfl rfl (decide_eq_false hg31) ?_
          refine ent_o rfl (ok_call (rStates_ok c (by first | rfl | assumption | omega | (simp_all; done) | grind) (by first | rfl | assumption | omega | (simp_all; done) | grind)) rfl) ?_
          refine ent_guardXT rfl rfl rfl rfl (decide_eq_false hg31) ?_
          refine ent_o rfl (ok_geq rfl rfl) ?_
          refine ent_guardXT rfl rfl rfl rfl (decide_eq_true hg28) ?_
          refine ent_o rfl (ok_pickF rfl (decide_eq_false hg31) rfl) ?_
          refine ent_o rfl (ok_pickT rfl (decide_eq_true hg28) rfl) ?_
          refine ent_nil ?_
          exact ent_rep ⟨rfl, rfl, rfl, rfl, rfl, rfl, rfl, slot_bool (dq_Q ((and_iff_right hg28).trans ((or_iff_right hg31).trans Iff.rfl))), trivial⟩ rfl
        · refine ent_guardXF rfl rfl rfl rfl (decide_eq_true hg31) ?_
          refine ent_guardXF rfl rfl rfl rfl (decide_eq_true hg31) ?_
          refine ent_guardXF rfl rfl rfl rfl (decide_eq_true hg31) ?_
          refine ent_guardXT rfl rfl rfl rfl (decide_eq_true hg28) ?_
          refine ent_o rfl (ok_pickT rfl (decide_eq_true hg31) rfl) ?_
          refine ent_o rfl (ok_pickT rfl (decide_eq_true hg28) rfl) ?_
          refine ent_nil ?_
          exact ent_rep ⟨rfl, rfl, rfl, rfl, rfl, rfl, rfl, slot_bool (dq_T rfl ⟨hg28, (Or.inl hg31)⟩), trivial⟩ rfl
      · refine ent_guardXF rfl rfl rfl rfl (decide_eq_false hg28) ?_
        refine ent_guardXF rfl rfl rfl rfl (decide_eq_false hg28) ?_
        refine ent_guardU rfl rfl rfl rfl ?_
        refine ent_guardU rfl rfl rfl rfl ?_
        refine ent_guardU rfl rfl rfl rfl ?_
        refine ent_guardU rfl rfl rfl rfl ?_
        refine ent_guardXF rfl rfl rfl rfl (decide_eq_false hg28) ?_
        refine ent_o rfl (ok_pickF rfl (decide_eq_false hg28) rfl) ?_
        refine ent_nil ?_
        exact ent_rep ⟨rfl, rfl, rfl, rfl, rfl, rfl, rfl, slot_bool (dq_F rfl (fun h => hg28 h.1)), trivial⟩ rfl
    refine ent_k hK8 ?_
    refine ent_condD rfl (fun h37 => ?_) (fun h37 => ?_)
    · have he : c.nxErr s l = 6 := by unfold Cnv.nxErr; rw [if_pos h37.1, if_pos h37.2]
      have hne : c.nxErr s l ≠ 0 := by rw [he]; omega
      refine ent_region ?_
      refine ent_o rfl (ok_assign rfl) ?_
      refine ent_nil ?_
      refine ent_k hK7 ?_
      refine ent_seq fun K9 hK9 => ?_
      refine ent_seq fun K10 hK10 => ?_
      refine ent_region ?_
      refine ent_o rfl (ok_move rfl) ?_
      refine ent_o rfl (ok_eql rfl rfl) ?_
      refine ent_nil ?_
      refine ent_k hK10 ?_
      refine ent_condFP rfl (by decide) ?_
      refine ent_skip ?_
      refine ent_k hK9 ?_
      refine ent_seq fun K11 hK11 => ?_
      refine ent_seq fun K12 hK12 => ?_
      refine ent_region ?_
      refine ent_o rfl (ok_move rfl) ?_
      refine ent_o rfl (ok_neq rfl rfl) ?_
      refine ent_nil ?_
      refine ent_k hK12 ?_
      refine ent_condTP rfl (by decide) ?_
      refine ent_seq fun K13 hK13 => ?_
      refine ent_cut (⟨[(6, aBool (decide ((((c.nxErr s l) = 6) ∧ ((c.nxSt s l) = 0)) ∧ ((↑(c.nxOut s l).length : Int) = 0))))], [oBox b3_1 27 [aInt c.F.P, aInt c.F.M, aSl 1 false aInt c.F.mod, aSl 1 false aRows c.Gen]]⟩) ?_ ?_
      · refine ent_region ?_
        refine ent_o rfl (ok_move rfl) ?_
        refine ent_o rfl (ok_move rfl) ?_
        refine ent_o rfl (ok_eql rfl rfl) ?_
        refine ent_o rfl (ok_move rfl) ?_
        refine ent_guardXDt rfl rfl rfl rfl (fun hg48 => ?_) (fun hg48 => ?_)
        · refine ent_o rfl (ok_move rfl) ?_
          refine ent_guardXT rfl rfl rfl rfl (decide_eq_true hg48) ?_
          refine ent_o rfl (ok_eql rfl rfl) ?_
          refine ent_o rfl (ok_pickT rfl (decide_eq_true hg48) rfl) ?_
          refine ent_o rfl (ok_move rfl) ?_
          refine ent_guardXDt rfl rfl rfl rfl (fun hg52 => ?_) (fun hg52 => ?_)
          · refine ent_o rfl (ok_move rfl) ?_
            refine ent_guardXT rfl rfl rfl rfl (decide_eq_true hg52) ?_
            refine ent_o rfl (ok_len rfl Try.runUnderlying22 rfl) ?_
            refine ent_guardXT rfl rfl rfl rfl (decide_eq_true hg52) ?_
            refine ent_o rfl (ok_eql rfl rfl) ?_
            refine ent_o rfl (ok_pickT rfl (decide_eq_true hg52) rfl) ?_
            refine ent_o rfl (ok_assign rfl) ?_
            refine ent_nil ?_
            exact ent_rep ⟨slot_bool (dq_Q ((and_iff_right ⟨hg48, hg52⟩).trans Iff.rfl)), trivial⟩ rfl
          · refine ent_guardXF rfl rfl rfl rfl (decide_eq_false hg52) ?_
            refine ent_guardXF rfl rfl rfl rfl (decide_eq_false hg52) ?_
            refine ent_o rfl (ok_pickF rfl (decide_eq_false hg52) rfl) ?_
            refine ent_o rfl (ok_assign rfl) ?_
            refine ent_nil ?_
            exact ent_rep ⟨slot_bool (dq_F rfl (fun h => (fun h => hg52 h.2) h.1)), trivial⟩ rfl
        · refine ent_guardXF rfl rfl rfl rfl (decide_eq_false hg48) ?_
          refine ent_o rfl (ok_pickF rfl (decide_eq_false hg48) rfl) ?_
          refine ent_o rfl (ok_move rfl) ?_
          refine ent_guardXF rfl rfl rfl rfl rfl ?_
          refine ent_guardXF rfl rfl rfl rfl rfl ?_
          refine ent_guardXF rfl rfl rfl rfl rfl ?_
          refine ent_o rfl (ok_pickF rfl rfl rfl) ?_
          refine ent_o rfl (ok_assign rfl) ?_
          refine ent_nil ?_
          exact ent_rep ⟨slot_bool (dq_F rfl (fun h => (fun h => hg48 h.1) h.1)), trivial⟩ rfl
      refine ent_k hK13 ?_
      refine ent_ret ?_
      exact retR1 (.inr rfl) Try.results4 (resr_tmp (res_cv rfl (cv_bool (by first | rfl | exact decide_eq_true ⟨⟨hz, if_pos hz⟩, if_pos hz⟩ | exact decide_eq_true ⟨⟨he, if_neg hne⟩, by rw [show c.nxOut s l = [] from if_neg hne]; rfl⟩))))
    · refine ent_skip ?_
      refine ent_k hK7 ?_
      refine ent_seq fun K14 hK14 => ?_
      refine ent_seq fun K15 hK15 => ?_
      refine ent_region ?_
      refine ent_o rfl (ok_move rfl) ?_
      refine ent_o rfl (ok_eql rfl rfl) ?_
      refine ent_nil ?_
      refine ent_k hK15 ?_
      refine ent_condD rfl (fun h39 => ?_) (fun h39 => ?_)
      · have he : c.nxErr s l = c.inErr l := by unfold Cnv.nxErr; rw [if_pos h39, if_neg (fun g => h37 ⟨h39, g⟩)]
        refine ent_region ?_
        refine ent_o rfl (ok_loadBS (k := 0) ti27 rfl rfl rfl) ?_
        refine ent_o rfl (ok_move rfl) ?_
        refine ent_o rfl (ok_call (rCnvList_ok c l) rfl) ?_
        refine ent_o rfl (ok_assign rfl) ?_
        refine ent_nil ?_
        refine ent_k hK14 ?_
        refine ent_seq fun K16 hK16 => ?_
        refine ent_seq fun K17 hK17 => ?_
        refine ent_region ?_
        refine ent_o rfl (ok_move rfl) ?_
        refine ent_o rfl (ok_neq rfl rfl) ?_
        refine ent_nil ?_
        refine ent_k hK17 ?_
        refine ent_condD rfl (fun h44 => ?_) (fun h44 => ?_)
        · have hne : c.nxErr s l ≠ 0 := by rw [he]; exact h44
          refine ent_seq fun K18 hK18 => ?_
          refine ent_cut (⟨[(6, aBool (decide ((((c.nxErr s l) = (c.inErr l)) ∧ ((c.nxSt s l) = 0)) ∧ ((↑(c.nxOut s l).length : Int) = 0))))], [oBox b3_1 27 [aInt c.F.P, aInt c.F.M, aSl 1 false aInt c.F.mod, aSl 1 false aRows c.Gen]]⟩) ?_ ?_
          · refine ent_region ?_
            refine ent_o rfl (ok_move rfl) ?_
            refine ent_o rfl (ok_move rfl) ?_
            refine ent_o rfl (ok_eql rfl rfl) ?_
            refine ent_o rfl (ok_move rfl) ?_
            refine ent_guardXDt rfl rfl rfl rfl (fun hg48 => ?_) (fun hg48 => ?_)
            · refine ent_o rfl (ok_move rfl) ?_
              refine ent_guardXT rfl rfl rfl rfl (decide_eq_true hg48) ?_
              refine ent_o rfl (ok_eql rfl rfl) ?_
              refine ent_o rfl (ok_pickT rfl (decide_eq_true hg48) rfl) ?_
              refine ent_o rfl (ok_move rfl) ?_
              refine ent_guardXDt rfl rfl rfl rfl (fun hg52 => ?_) (fun hg52 => ?_)
              · refine ent_o rfl (ok_move rfl) ?_
                refine ent_guardXT rfl rfl rfl rfl (decide_eq_true hg52) ?_
                refine ent_o rfl (ok_len rfl Try.runUnderlying22 rfl) ?_
                refine ent_guardXT rfl rfl rfl rfl (decide_eq_true hg52) ?_
                refine ent_o rfl (ok_eql rfl rfl) ?_
                refine ent_o rfl (ok_pickT rfl (decide_eq_true hg52) rfl) ?_
                refine ent_o rfl (ok_assign rfl) ?_
                refine ent_nil ?_
                exact ent_rep ⟨slot_bool (dq_Q ((and_iff_right ⟨hg48, hg52⟩).trans Iff.rfl)), trivial⟩ rfl
              · refine ent_guardXF rfl rfl rfl rfl (decide_eq_false hg52) ?_
                refine ent_guardXF rfl rfl rfl rfl (decide_eq_false hg52) ?_
                refine ent_o rfl (ok_pickF rfl (decide_eq_false hg52) rfl) ?_
                refine ent_o rfl (ok_assign rfl) ?_
                refine ent_nil ?_
                exact ent_rep ⟨slot_bool (dq_F rfl (fun h => (fun h => hg52 h.2) h.1)), trivial⟩ rfl
            · refine ent_guardXF rfl rfl rfl rfl (decide_eq_false hg48) ?_
              refine ent_o rfl (ok_pickF rfl (decide_eq_false hg48) rfl) ?_
              refine ent_o rfl (ok_move rfl) ?_
              refine ent_guardXF rfl rfl rfl rfl rfl ?_
              refine ent_guardXF rfl rfl rfl rfl rfl ?_
              refine ent_guardXF rfl rfl rfl rfl rfl ?_
              refine ent_o rfl (ok_pickF rfl rfl rfl) ?_
              refine ent_o rfl (ok_assign rfl) ?_
              refine ent_nil ?_
              exact ent_rep ⟨slot_bool (dq_F rfl (fun h => (fun h => hg48 h.1) h.1)), trivial⟩ rfl
          refine ent_k hK18 ?_
          refine ent_ret ?_
          exact retR1 (.inr rfl) Try.results4 (resr_tmp (res_cv rfl (cv_bool (by first | rfl | exact decide_eq_true ⟨⟨hz, if_pos hz⟩, if_pos hz⟩ | exact decide_eq_true ⟨⟨he, if_neg hne⟩, by rw [show c.nxOut s l = [] from if_neg hne]; rfl⟩))))
        · have hz : c.nxErr s l = 0 := by rw [he]; exact Classical.not_not.1 h44
          have hG := Cnv.nxErr_zero.1 hz
          refine ent_skip ?_
          refine ent_k hK16 ?_
          refine ent_seq fun K19 hK19 => ?_
          refine ent_region ?_
          refine ent_o rfl (ok_loadBS (k := 0) ti27 rfl rfl rfl) ?_
          refine ent_o rfl (ok_move rfl) ?_
          refine ent_o rfl (ok_move rfl) ?_
          refine ent_o rfl (ok_call (CtrF.ctr (rNext_ok c s l (by first | rfl | assumption | omega | (simp_all; done) | grind) hG.1 hG.2.1.1 hG.2.1.2 hG.2.2)) rfl) ?_
          refine ent_o rfl (ok_move rfl) ?_
          refine ent_o rfl (ok_extract rfl rfl) ?_
          refine ent_o rfl (ok_extract rfl rfl) ?_
          refine ent_o rfl (ok_assign rfl) ?_
          refine ent_o rfl (ok_assign rfl) ?_
          refine ent_nil ?_
          refine ent_k hK19 ?_
          refine ent_seq fun K20 hK20 => ?_
          refine ent_cut (⟨[(6, aBool (decide ((((c.nxErr s l) = 0) ∧ ((c.nxSt s l) = (c.nxt s l c.Gen.length))) ∧ ((c.nxOut s l) = (c.outL s l)))))], [oBox b3_1 27 [aInt c.F.P, aInt c.F.M, aSl 1 false aInt c.F.mod, aSl 1 false aRows c.Gen]]⟩) ?_ ?_
          · refine ent_region ?_
            refine ent_o rfl (ok_move rfl) ?_
            refine ent_o rfl (ok_eql rfl rfl) ?_
            refine ent_o rfl (ok_move rfl) ?_
            refine ent_guardXDt rfl rfl rfl rfl (fun hg66 => ?_) (fun hg66 => ?_)
            · refine ent_o rfl (ok_move rfl) ?_
              refine ent_guardXT rfl rfl rfl rfl (decide_eq_true hg66) ?_
              refine ent_o rfl (ok_move rfl) ?_
              refine ent_guardXT rfl rfl rfl rfl (decide_eq_true hg66) ?_
              refine ent_o rfl (ok_eql rfl rfl) ?_
              refine ent_o rfl (ok_pickT rfl (decide_eq_true hg66) rfl) ?_
              refine ent_o rfl (ok_move rfl) ?_
              refine ent_guardXDt rfl rfl rfl rfl (fun hg71 => ?_) (fun hg71 => ?_)
              · refine ent_o rfl (ok_move rfl) ?_
                refine ent_guardXT rfl rfl rfl rfl (decide_eq_true hg71) ?_
                refine ent_o rfl (ok_move rfl) ?_
                refine ent_guardXT rfl rfl rfl rfl (decide_eq_true hg71) ?_
                refine ent_o rfl (ok_call (SameInts_ok (c.nxOut s l) (c.outL s l)) rfl) ?_
                refine ent_o rfl (ok_pickT rfl (decide_eq_true hg71) rfl) ?_
                refine ent_o rfl (ok_assign rfl) ?_
                refine ent_nil ?_
                exact ent_rep ⟨slot_bool (dq_Q ((and_iff_right ⟨hg66, hg71⟩).trans Iff.rfl)), trivial⟩ rfl
              · refine ent_guardXF rfl rfl rfl rfl (decide_eq_false hg71) ?_
                refine ent_guardXF rfl rfl rfl rfl (decide_eq_false hg71) ?_
                refine ent_o rfl (ok_pickF rfl (decide_eq_false hg71) rfl) ?_
                refine ent_o rfl (ok_assign rfl) ?_
                refine ent_nil ?_
                exact ent_rep ⟨slot_bool (dq_F rfl (fun h => (fun h => hg71 h.2) h.1)), trivial⟩ rfl
            · refine ent_guardXF rfl rfl rfl rfl (decide_eq_false hg66) ?_
              refine ent_guardXF rfl rfl rfl rfl (decide_eq_false hg66) ?_
              refine ent_o rfl (ok_pickF rfl (decide_eq_false hg66) rfl) ?_
              refine ent_o rfl (ok_move rfl) ?_
              refine ent_guardXF rfl rfl rfl rfl rfl ?_
              refine ent_guardXF rfl rfl rfl rfl rfl ?_
              refine ent_guardXF rfl rfl rfl rfl rfl ?_
              refine ent_o rfl (ok_pickF rfl rfl rfl) ?_
              refine ent_o rfl (ok_assign rfl) ?_
              refine ent_nil ?_
              exact ent_rep ⟨slot_bool (dq_F rfl (fun h => (fun h => hg66 h.1) h.1)), trivial⟩ rfl
          refine ent_k hK20 ?_
          refine ent_ret ?_
          exact retR1 (.inr rfl) Try.results4 (resr_tmp (res_cv rfl (cv_bool (by first | rfl | exact decide_eq_true ⟨⟨hz, if_pos hz⟩, if_pos hz⟩ | exact decide_eq_true ⟨⟨he, if_neg hne⟩, by rw [show c.nxOut s l = [] from if_neg hne]; rfl⟩))))
      · have he : c.nxErr s l = c.err := if_neg h39
        refine ent_skip ?_
        refine ent_k hK14 ?_
        refine ent_seq fun K21 hK21 => ?_
        refine ent_seq fun K22 hK22 => ?_
        refine ent_region ?_
        refine ent_o rfl (ok_move rfl) ?_
        refine ent_o rfl (ok_neq rfl rfl) ?_
        refine ent_nil ?_
        refine ent_k hK22 ?_
        refine ent_condD rfl (fun h44 => ?_) (fun h44 => ?_)
        · have hne : c.nxErr s l ≠ 0 := by rw [he]; exact h44
          refine ent_seq fun K23 hK23 => ?_
          refine ent_cut (⟨[(6, aBool (decide ((((c.nxErr s l) = c.err) ∧ ((c.nxSt s l) = 0)) ∧ ((↑(c.nxOut s l).length : Int) = 0))))], [oBox b3_1 27 [aInt c.F.P, aInt c.F.M, aSl 1 false aInt c.F.mod, aSl 1 false aRows c.Gen]]⟩) ?_ ?_
          · refine ent_region ?_
            refine ent_o rfl (ok_move rfl) ?_
            refine ent_o rfl (ok_move rfl) ?_
            refine ent_o rfl (ok_eql rfl rfl) ?_
            refine ent_o rfl (ok_move rfl) ?_
            refine ent_guardXDt rfl rfl rfl rfl (fun hg48 => ?_) (fun hg48 => ?_)
            · refine ent_o rfl (ok_move rfl) ?_
              refine ent_guardXT rfl rfl rfl rfl (decide_eq_true hg48) ?_
              refine ent_o rfl (ok_eql rfl rfl) ?_
              refine ent_o rfl (ok_pickT rfl (decide_eq_true hg48) rfl) ?_
              refine ent_o rfl (ok_move rfl) ?_
              refine ent_guardXDt rfl rfl rfl rfl (fun hg52 => ?_) (fun hg52 => ?_)
              · refine ent_o rfl (ok_move rfl) ?_
                refine ent_guardXT rfl rfl rfl rfl (decide_eq_true hg52) ?_
                refine ent_o rfl (ok_len rfl Try.runUnderlying22 rfl) ?_
                refine ent_guardXT rfl rfl rfl rfl (decide_eq_true hg52) ?_
                refine ent_o rfl (ok_eql rfl rfl) ?_
                refine ent_o rfl (ok_pickT rfl (decide_eq_true hg52) rfl) ?_
                refine ent_o rfl (ok_assign rfl) ?_
                refine ent_nil ?_
                exact ent_rep ⟨slot_bool (dq_Q ((and_iff_right ⟨hg48, hg52⟩).trans Iff.rfl)), trivial⟩ rfl
              · refine ent_guardXF rfl rfl rfl rfl (decide_eq_false hg52) ?_
                refine ent_guardXF rfl rfl rfl rfl (decide_eq_false hg52) ?_
                refine ent_o rfl (ok_pickF rfl (decide_eq_false hg52) rfl) ?_
                refine ent_o rfl (ok_assign rfl) ?_
                refine ent_nil ?_
                exact ent_rep ⟨slot_bool (dq_F rfl (fun h => (fun h => hg52 h.2) h.1)), trivial⟩ rfl
            · refine ent_guardXF rfl rfl rfl rfl (decide_eq_false hg48) ?_
              refine ent_o rfl (ok_pickF rfl (decide_eq_false hg48) rfl) ?_
              refine ent_o rfl (ok_move rfl) ?_
              refine ent_guardXF rfl rfl rfl rfl rfl ?_
              refine ent_guardXF rfl rfl rfl rfl rfl ?_
              refine ent_guardXF rfl rfl rfl rfl rfl ?_
              refine ent_o rfl (ok_pickF rfl rfl rfl) ?_
              refine ent_o rfl (ok_assign rfl) ?_
              refine ent_nil ?_
              exact ent_rep ⟨slot_bool (dq_F rfl (fun h => (fun h => hg48 h.1) h.1)), trivial⟩ rfl
          refine ent_k hK23 ?_
          refine ent_ret ?_
          exact retR1 (.inr rfl) Try.results4 (resr_tmp (res_cv rfl (cv_bool (by first | rfl | exact decide_eq_true ⟨⟨hz, if_pos hz⟩, if_pos hz⟩ | exact decide_eq_true ⟨⟨he, if_neg hne⟩, by rw [show c.nxOut s l = [] from if_neg hne]; rfl⟩))))
        · have hz : c.nxErr s l = 0 := by rw [he]; exact Classical.not_not.1 h44
          have hG := Cnv.nxErr_zero.1 hz
          refine ent_skip ?_
          refine ent_k hK21 ?_
          refine ent_seq fun K24 hK24 => ?_
          refine ent_region ?_
          refine ent_o rfl (ok_loadBS (k := 0) ti27 rfl rfl rfl) ?_
          refine ent_o rfl (ok_move rfl) ?_
          refine ent_o rfl (ok_move rfl) ?_
          refine ent_o rfl (ok_call (CtrF.ctr (rNext_ok c s l (by first | rfl | assumption | omega | (simp_all; done) | grind) hG.1 hG.2.1.1 hG.2.1.2 hG.2.2)) rfl) ?_
          refine ent_o rfl (ok_move rfl) ?_
          refine ent_o rfl (ok_extract rfl rfl) ?_
          refine ent_o rfl (ok_extract rfl rfl) ?_
          refine ent_o rfl (ok_assign rfl) ?_
          refine ent_o rfl (ok_assign rfl) ?_
          refine ent_nil ?_
          refine ent_k hK24 ?_
          refine ent_seq fun K25 hK25 => ?_
          refine ent_cut (⟨[(6, aBool (decide ((((c.nxErr s l) = 0) ∧ ((c.nxSt s l) = (c.nxt s l c.Gen.length))) ∧ ((c.nxOut s l) = (c.outL s l)))))], [oBox b3_1 27 [aInt c.F.P, aInt c.F.M, aSl 1 false aInt c.F.mod, aSl 1 false aRows c.Gen]]⟩) ?_ ?_
          · refine ent_region ?_
            refine ent_o rfl (ok_move rfl) ?_
            refine ent_o rfl (ok_eql rfl rfl) ?_
            refine ent_o rfl (ok_move rfl) ?_
            refine ent_guardXDt rfl rfl rfl rfl (fun hg66 => ?_) (fun hg66 => ?_)
            · refine ent_o rfl (ok_move rfl) ?_
              refine ent_guardXT rfl rfl rfl rfl (decide_eq_true hg66) ?_
              refine ent_o rfl (ok_move rfl) ?_
              refine ent_guardXT rfl rfl rfl rfl (decide_eq_true hg66) ?_
              refine ent_o rfl (ok_eql rfl rfl) ?_
              refine ent_o rfl (ok_pickT rfl (decide_eq_true hg66) rfl) ?_
              refine ent_o rfl (ok_move rfl) ?_
              refine ent_guardXDt rfl rfl rfl rfl (fun hg71 => ?_) (fun hg71 => ?_)
              · refine ent_o rfl (ok_move rfl) ?_
                refine ent_guardXT rfl rfl rfl rfl (decide_eq_true hg71) ?_
                refine ent_o rfl (ok_move rfl) ?_
                refine ent_guardXT rfl rfl rfl rfl (decide_eq_true hg71) ?_
                refine ent_o rfl (ok_call (SameInts_ok (c.nxOut s l) (c.outL s l)) rfl) ?_
                refine ent_o rfl (ok_pickT rfl (decide_eq_true hg71) rfl) ?_
                refine ent_o rfl (ok_assign rfl) ?_
                refine ent_nil ?_
                exact ent_rep ⟨slot_bool (dq_Q ((and_iff_right ⟨hg66, hg71⟩).trans Iff.rfl)), trivial⟩ rfl
              · refine ent_guardXF rfl rfl rfl rfl (decide_eq_false hg71) ?_
                refine ent_guardXF rfl rfl rfl rfl (decide_eq_false hg71) ?_
                refine ent_o rfl (ok_pickF rfl (decide_eq_false hg71) rfl) ?_
                refine ent_o rfl (ok_assign rfl) ?_
                refine ent_nil ?_
                exact ent_rep ⟨slot_bool (dq_F rfl (fun h => (fun h => hg71 h.2) h.1)), trivial⟩ rfl
            · refine ent_guardXF rfl rfl rfl rfl (decide_eq_false hg66) ?_
              refine ent_guardXF rfl rfl rfl rfl (decide_eq_false hg66) ?_
              refine ent_o rfl (ok_pickF rfl (decide_eq_false hg66) rfl) ?_
              refine ent_o rfl (ok_move rfl) ?_
              refine ent_guardXF rfl rfl rfl rfl rfl ?_
              refine ent_guardXF rfl rfl rfl rfl rfl ?_
              refine ent_guardXF rfl rfl rfl rfl rfl ?_
              refine ent_o rfl (ok_pickF rfl rfl rfl) ?_
              refine ent_o rfl (ok_assign rfl) ?_
              refine ent_nil ?_
              exact ent_rep ⟨slot_bool (dq_F rfl (fun h => (fun h => hg66 h.1) h.1)), trivial⟩ rfl
          refine ent_k hK25 ?_
          refine ent_ret ?_
          exact retR1 (.inr rfl) Try.results4 (resr_tmp (res_cv rfl (cv_bool (by first | rfl | exact decide_eq_true ⟨⟨hz, if_pos hz⟩, if_pos hz⟩ | exact decide_eq_true ⟨⟨he, if_neg hne⟩, by rw [show c.nxOut s l = [] from if_neg hne]; rfl⟩))))
end Go.Proofs.Ytfjhbdfgbpcchaa
