/-
  The law ConvFrees.
-/
import Derived.Test.YtfjhbdfgbpcchaaProg
import Derived.Test.YtfjhbdfgbpcchaaTab
import Derived.Test.YtfjhbdfgbpcchaaCy
import Derived.Test.YtfjhbdfgbpcchaaPlainFr
import Derived.Test.YtfjhbdfgbpcchaaFieldA
import Derived.Test.YtfjhbdfgbpcchaaFieldB
import Derived.Test.YtfjhbdfgbpcchaaFieldC
import Derived.Test.YtfjhbdfgbpcchaaFieldE
import Derived.Test.YtfjhbdfgbpcchaaPoly
import Derived.Test.YtfjhbdfgbpcchaaBuild
import Derived.Test.YtfjhbdfgbpcchaaRefC
import Derived.Test.YtfjhbdfgbpcchaaStep
import Derived.Test.YtfjhbdfgbpcchaaRefN
import Derived.Test.YtfjhbdfgbpcchaaEncode
import Derived.Test.YtfjhbdfgbpcchaaTerm
import Derived.Test.YtfjhbdfgbpcchaaAdd
import Derived.Test.YtfjhbdfgbpcchaaDigits
import Derived.Test.YtfjhbdfgbpcchaaEdges
import Derived.Test.YtfjhbdfgbpcchaaReach
import Derived.Test.YtfjhbdfgbpcchaaAccept
import Derived.Test.YtfjhbdfgbpcchaaLeast
import Derived.Test.YtfjhbdfgbpcchaaFree
open Go Go.Cw
namespace Go.Proofs.Ytfjhbdfgbpcchaa
set_option maxRecDepth 100000
set_option linter.unusedVariables false
set_option linter.unusedSimpArgs false
theorem ConvFrees_ok (c : Cnv)  : Ctr Try.prog 8 [aCnv c] (aBool true) := by
  refine ctr_of Try.call8 Try.func8 rfl rfl ?_
  intro w O
  refine ent_lenC 0 2 rfl rfl (fun hlen0_2 => ?_)
  refine ent_lenC 0 3 rfl rfl (fun hlen0_3 => ?_)
  refine ent_seq fun K1 hK1 => ?_
  refine ent_region ?_
  refine ent_boxS rfl rfl (AllOne.mem ⟨(one_int _), (one_int _), one_sl, one_sl, trivial⟩) (fun b1_1 => ?_)
  refine ent_o rfl (ok_assign rfl) ?_
  refine ent_nil ?_
  refine ent_k hK1 ?_
  refine ent_seq fun K2 hK2 => ?_
  refine ent_seq fun K3 hK3 => ?_
  refine ent_region ?_
  refine ent_o rfl (ok_loadBS (k := 0) ti27 rfl rfl rfl) ?_
  refine ent_o rfl (ok_call (few_ok c) rfl) ?_
  refine ent_o rfl (ok_notD rfl) ?_
  refine ent_nil ?_
  refine ent_k hK3 ?_
  refine ent_condD rfl (fun h9 => ?_) (fun h9 => ?_)
  · refine ent_seq fun K4 hK4 => ?_
    refine ent_region ?_
    refine ent_o rfl (ok_assign rfl) ?_
    refine ent_nil ?_
    refine ent_k hK4 ?_
    refine ent_ret ?_
    exact retR1 (.inr rfl) Try.results8 (resr_tmp (res_cv rfl (cv_bool (by first | rfl | exact decide_eq_true ⟨hfl.2.1, hfl.2.2⟩ | exact decide_eq_true ⟨⟨trivial, hfl.2.1⟩, hfl.2.2⟩ | exact decide_eq_true ⟨⟨rfl, trivial⟩, rfl⟩ | exact decide_eq_true ⟨⟨rfl, rfl⟩, rfl⟩ | simp))))
  · have hFew := (Classical.not_not.1 h9).1
    refine ent_skip ?_
    refine ent_k hK2 ?_
    refine ent_seq fun K5 hK5 => ?_
    refine ent_seq fun K6 hK6 => ?_
    refine ent_region ?_
    refine ent_o rfl (ok_loadBS (k := 0) ti27 rfl rfl rfl) ?_
    refine ent_o rfl (ok_call (rCnvCheck_ok c (by first | rfl | assumption | omega | (simp_all; done) | grind)) rfl) ?_
    refine ent_o rfl (ok_neq rfl rfl) ?_
    refine ent_nil ?_
    refine ent_k hK6 ?_
    refine ent_condD rfl (fun h12 => ?_) (fun h12 => ?_)
    · have hNo : ¬ c.Ok := fun h => h12 (Cnv.err_zero.2 h)
      refine ent_seq fun K7 hK7 => ?_
      refine ent_region ?_
      refine ent_o rfl (ok_loadBS (k := 0) ti27 rfl rfl rfl) ?_
      refine ent_o rfl (ok_call (Free_no c (by first | rfl | assumption | omega | (simp_all; done) | grind) hNo) rfl) ?_
      refine ent_o rfl (ok_move rfl) ?_
      refine ent_o rfl (ok_extract rfl rfl) ?_
      refine ent_o rfl (ok_extract rfl rfl) ?_
      refine ent_alloc (z := .agg #[.int .i64 0, .slice none 0 0, .slice none 0 0]) [aInt 0, aEx (.slice none 0 0), aEx (.slice none 0 0)] rfl zv55 rfl zc55 (fun b3_2 => ?_)
      refine ent_storeBS (k := 0) Try.sizeOf55 rfl rfl rfl (AllOne.mem ⟨(one_int _), one_sl, one_sl, trivial⟩) rfl rfl ?_
      refine ent_o rfl (ok_assign rfl) ?_
      refine ent_nil ?_
      refine ent_k hK7 ?_
      refine ent_seq fun K8 hK8 => ?_
      refine ent_cut (⟨[(2, aBool (decide (((c.err = c.err) ∧ True) ∧ (((↑([] : List (List Int)).length : Int) + (↑([] : List Int).length : Int)) = 0))))], [oBox b3_2 55 [aInt 0, aSl 1 false aInts ([] : List (List Int)), aSl 1 false aInt ([] : List Int)], oBox b1_1 27 [aInt c.F.P, aInt c.F.M, aSl 1 false aInt c.F.mod, aSl 1 false aRows c.Gen]]⟩) ?_ ?_
      · refine ent_region ?_
        refine ent_o rfl (ok_move rfl) ?_
        refine ent_o rfl (ok_loadBS (k := 1) ti27 rfl rfl rfl) ?_
        refine ent_o rfl (ok_call (rCnvCheck_ok c (by first | rfl | assumption | omega | (simp_all; done) | grind)) rfl) ?_
        refine ent_o rfl (ok_eql rfl rfl) ?_
        refine ent_o rfl (ok_move rfl) ?_
        refine ent_guardXDt rfl rfl rfl rfl (fun hg22 => ?_) (fun hg22 => ?_)
        · refine ent_o rfl (ok_fieldAddrEx Try.runUnderlying55 rfl Try.sizeOf3 (by decide) rfl) ?_
          refine ent_guardXT rfl rfl rfl rfl (decide_eq_true hg22) ?_
          refine ent_o rfl (ok_loadB (k := 0) Try.isAgg3 rfl rfl rfl) ?_
          refine ent_guardXT rfl rfl rfl rfl (decide_eq_true hg22) ?_
          refine ent_o rfl (ok_eql rfl rfl) ?_
          refine ent_o rfl (ok_pickT rfl (decide_eq_true hg22) rfl) ?_
          refine ent_o rfl (ok_move rfl) ?_
          refine ent_guardXT rfl rfl rfl rfl (by decide) ?_
          refine ent_o rfl (ok_fieldAddrEx Try.runUnderlying55 rfl Try.sizeOf42 (by decide) rfl) ?_
          refine ent_guardXT rfl rfl rfl rfl (by decide) ?_
          refine ent_o rfl (ok_loadB (k := 0) Try.isAgg42 rfl rfl rfl) ?_
          refine ent_guardXT rfl rfl rfl rfl (by decide) ?_
          refine ent_o rfl (ok_len rfl Try.runUnderlying42 rfl) ?_
          refine ent_guardXT rfl rfl rfl rfl (by decide) ?_
          refine ent_o rfl (ok_fieldAddrEx Try.runUnderlying55 rfl Try.sizeOf22 (by decide) rfl) ?_
          refine ent_guardXT rfl rfl rfl rfl (by decide) ?_
          refine ent_o rfl (ok_loadB (k := 0) Try.isAgg22 rfl rfl rfl) ?_
          refine ent_guardXT rfl rfl rfl rfl (by decide) ?_
          refine ent_o rfl (ok_len rfl Try.runUnderlying22 rfl) ?_
          refine ent_guardXT rfl rfl rfl rfl (by decide) ?_
          refine ent_o rfl (ok_add rfl rfl (by simp) (by simp)) ?_
          refine ent_guardXT rfl rfl rfl rfl (by decide) ?_
          refine ent_o rfl (ok_eql rfl rfl) ?_
          refine ent_o rfl (ok_pickT rfl (by decide) rfl) ?_
          refine ent_o rfl (ok_assign rfl) ?_
          refine ent_nil ?_
          exact ent_rep ⟨slot_bool (dq_Q ((and_iff_right ⟨hg22, trivial⟩).trans Iff.rfl)), trivial⟩ rfl
        · refine ent_guardXF rfl rfl rfl rfl (decide_eq_false hg22) ?_
          refine ent_guardXF rfl rfl rfl rfl (decide_eq_false hg22) ?_
          refine ent_o rfl (ok_pickF rfl (decide_eq_false hg22) rfl) ?_
          refine ent_o rfl (ok_move rfl) ?_
          refine ent_guardXF rfl rfl rfl rfl rfl ?_
          refine ent_guardXF rfl rfl rfl rfl rfl ?_
          refine ent_guardXF rfl rfl rfl rfl rfl ?_
          refine ent_guardXF rfl rfl rfl rfl rfl ?_
          refine ent_guardXF rfl rfl rfl rfl rfl ?_
          refine ent_guardXF rfl rfl rfl rfl rfl ?_
          refine ent_guardXF rfl rfl rfl rfl rfl ?_
          refine ent_guardXF rfl rfl rfl rfl rfl ?_
          refine ent_o rfl (ok_pickF rfl rfl rfl) ?_
          refine ent_o rfl (ok_assign rfl) ?_
          refine ent_nil ?_
          exact ent_rep ⟨slot_bool (dq_F rfl (fun h => (fun h => hg22 h.1) h.1)), trivial⟩ rfl
      refine ent_k hK8 ?_
      refine ent_ret ?_
      exact retR1 (.inr rfl) Try.results8 (resr_tmp (res_cv rfl (cv_bool (by first | rfl | exact decide_eq_true ⟨hfl.2.1, hfl.2.2⟩ | exact decide_eq_true ⟨⟨trivial, hfl.2.1⟩, hfl.2.2⟩ | exact decide_eq_true ⟨⟨rfl, trivial⟩, rfl⟩ | exact decide_eq_true ⟨⟨rfl, rfl⟩, rfl⟩ | simp))))
    · have hOk := Cnv.err_zero.1 (Classical.not_not.1 h12)
      have hi2 := Cnv.ins_two hOk
      have hst := Cnv.states_ge (c := c) hOk.fld.1.bd.2.2.2.2.2.1
      refine ent_skip ?_
      refine ent_k hK5 ?_
      refine ent_seq fun K9 hK9 => ?_
      refine ent_seq fun K10 hK10 => ?_
      refine ent_region ?_
      refine ent_o rfl (ok_loadBS (k := 0) ti27 rfl rfl rfl) ?_
      refine ent_o rfl (ok_call (rSmall_ok c 512 (by first | rfl | assumption | omega | (simp_all; done) | grind) (by first | rfl | assumption | omega | (simp_all; done) | grind)) rfl) ?_
      refine ent_o rfl (ok_notD rfl) ?_
      refine ent_nil ?_
      refine ent_k hK10 ?_
      refine ent_condD rfl (fun h39 => ?_) (fun h39 => ?_)
      · refine ent_seq fun K11 hK11 => ?_
        refine ent_region ?_
        refine ent_o rfl (ok_assign rfl) ?_
        refine ent_nil ?_
        refine ent_k hK11 ?_
        refine ent_ret ?_
        exact retR1 (.inr rfl) Try.results8 (resr_tmp (res_cv rfl (cv_bool (by first | rfl | exact decide_eq_true ⟨hfl.2.1, hfl.2.2⟩ | exact decide_eq_true ⟨⟨trivial, hfl.2.1⟩, hfl.2.2⟩ | exact decide_eq_true ⟨⟨rfl, trivial⟩, rfl⟩ | exact decide_eq_true ⟨⟨rfl, rfl⟩, rfl⟩ | simp))))
      · refine ent_skip ?_
        refine ent_k hK9 ?_
        refine ent_seq fun K12 hK12 => ?_
        refine ent_region ?_
        refine ent_o rfl (ok_loadBS (k := 0) ti27 rfl rfl rfl) ?_
        refine ent_o rfl (ok_call (Free_ok c (by first | rfl | assumption | omega | (simp_all; done) | grind) hOk) rfl) ?_
        refine ent_exiT 42 rfl (fun p_3 hp_3 => ?_)
        have hfl := Cnv.free_least hOk hFew hp_3
        have hsml := (Classical.not_not.1 h39).1
        have hpl : p_3.Msg.length ≤ 1000 := by have h5 := hp_3.2.2.2.2; have := Int.mul_le_mul_of_nonneg_left hi2 (show 0 ≤ c.states by omega); omega
        refine ent_o rfl (ok_move rfl) ?_
        refine ent_o rfl (ok_extract rfl rfl) ?_
        refine ent_o rfl (ok_extract rfl rfl) ?_
        refine ent_alloc (z := .agg #[.int .i64 0, .slice none 0 0, .slice none 0 0]) [aInt 0, aEx (.slice none 0 0), aEx (.slice none 0 0)] rfl zv55 rfl zc55 (fun b5_4 => ?_)
        refine ent_storeBS (k := 0) Try.sizeOf55 rfl rfl rfl (AllOne.mem ⟨(one_int _), one_sl, one_sl, trivial⟩) rfl rfl ?_
        refine ent_o rfl (ok_assign rfl) ?_
        refine ent_nil ?_
        refine ent_k hK12 ?_
        refine ent_seq fun K13 hK13 => ?_
        refine ent_cut (⟨[(2, aBool (decide ((p_3.D = (c.fdist c.leastL 1073741824)) ∧ (c.Acc p_3))))], [oBox b5_4 55 [aInt p_3.D, aSl 1 false aInts p_3.Msg, aSl 1 false aInt p_3.Pot], oBox b1_1 27 [aInt c.F.P, aInt c.F.M, aSl 1 false aInt c.F.mod, aSl 1 false aRows c.Gen]]⟩) ?_ ?_
        · refine ent_draw 15 mixed (by kernel_rfl) (by kernel_rfl) (by kernel_rfl) ?_
          refine dw_o rfl (ok_move rfl) ?_
          refine dw_o rfl (ok_eql rfl rfl) ?_
          refine dw_o rfl (ok_move rfl) ?_
          refine dw_guardT rfl rfl rfl rfl (by decide) ?_
          refine dw_o rfl (ok_fieldAddrEx Try.runUnderlying55 rfl Try.sizeOf3 (by decide) rfl) ?_
          refine dw_guardT rfl rfl rfl rfl (by decide) ?_
          refine dw_o rfl (ok_loadB (k := 0) Try.isAgg3 rfl rfl rfl) ?_
          refine dw_guardT rfl rfl rfl rfl (by decide) ?_
          refine dw_o rfl (ok_loadBS (k := 1) ti27 rfl rfl rfl) ?_
          refine dw_guardT rfl rfl rfl rfl (by decide) ?_
          refine dw_o rfl (ok_call (rFree_ok c (by first | rfl | assumption | omega | (simp_all; done) | grind) hOk hfl.1) rfl) ?_
          refine dw_guardT rfl rfl rfl rfl (by decide) ?_
          refine dw_o rfl (ok_eql rfl rfl) ?_
          refine dw_o rfl (ok_pickT rfl (by decide) rfl) ?_
          refine dw_o rfl (ok_move rfl) ?_
          refine dw_guardDt rfl rfl rfl rfl (fun hg54 => ?_) (fun hg54 => ?_)
          · refine dw_o rfl (ok_loadBS (k := 1) ti27 rfl rfl rfl) ?_
            refine dw_guardT rfl rfl rfl rfl (decide_eq_true hg54) ?_
            refine dw_o rfl (ok_loadBS (k := 0) ti55 rfl rfl rfl) ?_
            refine dw_guardT rfl rfl rfl rfl (decide_eq_true hg54) ?_
            refine dw_o rfl (ok_call (rAccept_ok c p_3 (by first | rfl | assumption | omega | (simp_all; done) | grind) hOk hpl) rfl) ?_
            refine dw_o rfl (ok_pickT rfl (decide_eq_true hg54) rfl) ?_
            refine dw_o rfl (ok_assign rfl) ?_
            refine dw_nil ?_
            refine ent_nil ?_
            exact ent_rep ⟨slot_bool (dq_Q ((and_iff_right hg54).trans Iff.rfl)), trivial⟩ rfl
          · refine dw_guardF rfl rfl rfl rfl (decide_eq_false hg54) ?_
            refine dw_guardF rfl rfl rfl rfl (decide_eq_false hg54) ?_
            refine dw_o rfl (ok_pickF rfl (decide_eq_false hg54) rfl) ?_
            refine dw_o rfl (ok_assign rfl) ?_
            refine dw_nil ?_
            refine ent_nil ?_
            exact ent_rep ⟨slot_bool (dq_F rfl (fun h => hg54 h.1)), trivial⟩ rfl
        refine ent_k hK13 ?_
        refine ent_ret ?_
        exact retR1 (.inr rfl) Try.results8 (resr_tmp (res_cv rfl (cv_bool (by first | rfl | exact decide_eq_true ⟨hfl.2.1, hfl.2.2⟩ | exact decide_eq_true ⟨⟨trivial, hfl.2.1⟩, hfl.2.2⟩ | exact decide_eq_true ⟨⟨rfl, trivial⟩, rfl⟩ | exact decide_eq_true ⟨⟨rfl, rfl⟩, rfl⟩ | simp))))
end Go.Proofs.Ytfjhbdfgbpcchaa
