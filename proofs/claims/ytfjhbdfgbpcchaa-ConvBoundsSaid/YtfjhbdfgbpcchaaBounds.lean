/-
  The law ConvBounds.
-/
import Derived.Test.YtfjhbdfgbpcchaaProg
import Derived.Test.YtfjhbdfgbpcchaaTab
import Derived.Test.YtfjhbdfgbpcchaaCy
import Derived.Test.YtfjhbdfgbpcchaaPlainZ
import Derived.Test.YtfjhbdfgbpcchaaFieldA
import Derived.Test.YtfjhbdfgbpcchaaFieldB
import Derived.Test.YtfjhbdfgbpcchaaFieldC
import Derived.Test.YtfjhbdfgbpcchaaFieldE
import Derived.Test.YtfjhbdfgbpcchaaPoly
import Derived.Test.YtfjhbdfgbpcchaaBuild
import Derived.Test.YtfjhbdfgbpcchaaRefC
import Derived.Test.YtfjhbdfgbpcchaaStep
import Derived.Test.YtfjhbdfgbpcchaaRefN
import Derived.Test.YtfjhbdfgbpcchaaNext
import Derived.Test.YtfjhbdfgbpcchaaEncode
import Derived.Test.YtfjhbdfgbpcchaaTerm
import Derived.Test.YtfjhbdfgbpcchaaAdd
import Derived.Test.YtfjhbdfgbpcchaaDigits
import Derived.Test.YtfjhbdfgbpcchaaEdges
import Derived.Test.YtfjhbdfgbpcchaaReach
import Derived.Test.YtfjhbdfgbpcchaaCheckF
open Go Go.Cw
namespace Go.Proofs.Ytfjhbdfgbpcchaa
set_option maxRecDepth 100000
set_option linter.unusedVariables false
set_option linter.unusedSimpArgs false
set_option maxHeartbeats 1000000 in
theorem ConvBounds_ok (c : Cnv) (p : Cnv.Fp) (us : List (List Int))  : Ctr Try.prog 12 [aCnv c, aFp p, aSl 1 false aInts us] (aBool true) := by
  have hf4 := fourC_few
  refine ctr_of Try.call12 Try.func12 rfl rfl ?_
  intro w O
  refine ent_lenC 0 2 rfl rfl (fun hlen0_2 => ?_)
  refine ent_lenC 0 3 rfl rfl (fun hlen0_3 => ?_)
  refine ent_lenC 1 1 rfl rfl (fun hlen1_1 => ?_)
  refine ent_lenC 1 2 rfl rfl (fun hlen1_2 => ?_)
  refine ent_len 2 rfl (fun hlen2 => ?_)
  refine ent_seq fun K1 hK1 => ?_
  refine ent_region ?_
  refine ent_boxS rfl rfl (AllOne.mem ⟨(one_int _), (one_int _), one_sl, one_sl, trivial⟩) (fun b3_1 => ?_)
  refine ent_boxS rfl rfl (AllOne.mem ⟨(one_int _), one_sl, one_sl, trivial⟩) (fun b4_2 => ?_)
  refine ent_o rfl (ok_assign rfl) ?_
  refine ent_nil ?_
  refine ent_k hK1 ?_
  refine ent_seq fun K2 hK2 => ?_
  refine ent_region ?_
  refine ent_buildN aInt [1] rfl vt22 (by decide) (⟨0, 1, rfl, .inl ⟨rfl, _, rfl, (one_int _), rfl, rfl⟩⟩) rfl (fun b8_3 => ?_)
  refine ent_give 0 8 rfl (cv_vec (k := 0) (off_erase rfl) (by first | rfl | (simp; done) | (simp_all; done) | omega) rfl) ?_
  refine ent_buildN aInts [[1]] rfl vt42 (by decide) (⟨0, 1, rfl, .inl ⟨rfl, _, rfl, one_sl, rfl, rfl⟩⟩) rfl (fun b9_4 => ?_)
  refine ent_buildN aInt [0, 3, 2, 2] rfl vt22 (by decide) (⟨0, 1, rfl, .inl ⟨rfl, _, rfl, (one_int _), rfl, ⟨1, 1, rfl, .inl ⟨rfl, _, rfl, (one_int _), rfl, ⟨2, 1, rfl, .inl ⟨rfl, _, rfl, (one_int _), rfl, ⟨3, 1, rfl, .inl ⟨rfl, _, rfl, (one_int _), rfl, rfl⟩⟩⟩⟩⟩⟩⟩⟩) rfl (fun b10_5 => ?_)
  refine ent_o rfl (ok_build st55 (As := [aInt 0, aEx (.slice none 0 0), aEx (.slice none 0 0)]) z55 (⟨0, 1, rfl, .inl ⟨rfl, _, rfl, (one_int _), rfl, ⟨1, 1, rfl, .inl ⟨rfl, _, rfl, (one_ex rfl), rfl, ⟨2, 1, rfl, .inl ⟨rfl, _, rfl, (one_ex rfl), rfl, rfl⟩⟩⟩⟩⟩⟩)) ?_
  refine ent_alloc (z := .agg #[.int .i64 0, .slice none 0 0, .slice none 0 0]) [aInt 0, aEx (.slice none 0 0), aEx (.slice none 0 0)] rfl zv55 rfl zc55 (fun b7_6 => ?_)
  refine ent_storeBS (k := 0) Try.sizeOf55 rfl rfl rfl (AllOne.mem ⟨(one_int _), (one_ex rfl), (one_ex rfl), trivial⟩) rfl rfl ?_
  refine ent_nil ?_
  refine ent_k hK2 ?_
  refine ent_seq fun K3 hK3 => ?_
  refine ent_seq fun K4 hK4 => ?_
  refine ent_draw 13 mixed (by kernel_rfl) (by kernel_rfl) (by kernel_rfl) ?_
  refine dw_o rfl (ok_call four_ok rfl) ?_
  refine dw_o rfl (ok_loadBS (k := 0) ti55 rfl rfl rfl) ?_
  refine dw_o rfl (ok_callP [1, 2] (pl_ex) (CheckFree_ok fourC qA hf4 (by decide)) ⟨arg_a rfl (cv_id (sub_lent _)), arg_a rfl (cv_agg ⟨cv_int (by first | rfl | assumption | omega | (simp_all; done) | grind), cv_vec (k := 2) (off_lent rfl (by decide)) (by first | rfl | (simp; done) | (simp_all; done) | omega) (by first | rfl | assumption | omega | (simp_all; done) | grind), cv_vec (k := 1) (off_lent rfl (by decide)) (by first | rfl | (simp; done) | (simp_all; done) | omega) (by first | rfl | assumption | omega | (simp_all; done) | grind), trivial⟩), trivial⟩) ?_
  refine dw_o rfl (ok_neq rfl rfl) ?_
  refine dw_o rfl (ok_move rfl) ?_
  refine dw_guardT rfl rfl rfl rfl (decide_eq_false (fun h => h errA)) ?_
  refine dw_o rfl (ok_call four_ok rfl) ?_
  refine dw_guardT rfl rfl rfl rfl (decide_eq_false (fun h => h errA)) ?_
  refine dw_o rfl (ok_build1 (enc := aInt) (y := 1) vt22 rfl (elem_one (one_int _)) (by decide)) ?_
  refine dw_guardT rfl rfl rfl rfl (decide_eq_false (fun h => h errA)) ?_
  refine dw_o rfl (ok_build1 (enc := aInts) (y := [1]) vt42 rfl (elem_one one_sl) (by decide)) ?_
  refine dw_guardT rfl rfl rfl rfl (decide_eq_false (fun h => h errA)) ?_
  refine dw_o rfl (ok_buildNF aInt [0, 3, 2, 2] vt22 (by decide) rfl (⟨0, 1, rfl, .inl ⟨rfl, _, rfl, (one_int _), rfl, ⟨1, 1, rfl, .inl ⟨rfl, _, rfl, (one_int _), rfl, ⟨2, 1, rfl, .inl ⟨rfl, _, rfl, (one_int _), rfl, ⟨3, 1, rfl, .inl ⟨rfl, _, rfl, (one_int _), rfl, rfl⟩⟩⟩⟩⟩⟩⟩⟩) rfl) ?_
  refine dw_guardT rfl rfl rfl rfl (decide_eq_false (fun h => h errA)) ?_
  refine dw_o rfl (ok_build st55 (As := [aInt 0, aEx (.slice none 0 0), aEx (.slice none 0 0)]) z55 (⟨0, 1, rfl, .inl ⟨rfl, _, rfl, (one_int _), rfl, ⟨1, 1, rfl, .inl ⟨rfl, _, rfl, one_sl, rfl, ⟨2, 1, rfl, .inl ⟨rfl, _, rfl, one_full, rfl, rfl⟩⟩⟩⟩⟩⟩)) ?_
  refine dw_guardT rfl rfl rfl rfl (decide_eq_false (fun h => h errA)) ?_
  refine dw_o rfl (ok_callA (CheckFree_ok fourC qB hf4 (by decide)) ⟨arg_a rfl (cv_id sub_refl), arg_a rfl (cv_agg ⟨cv_int (by first | rfl | assumption | omega | (simp_all; done) | grind), cv_sl sub_refl (by first | rfl | assumption | omega | (simp_all; done) | grind), cv_full sub_refl, trivial⟩), trivial⟩) ?_
  refine dw_guardT rfl rfl rfl rfl (decide_eq_false (fun h => h errA)) ?_
  refine dw_o rfl (ok_neq rfl rfl) ?_
  refine dw_o rfl (ok_pickF rfl (decide_eq_false (fun h => h errA)) rfl) ?_
  refine dw_nil ?_
  refine ent_nil ?_
  refine ent_k hK4 ?_
  refine ent_condFP rfl (decide_eq_false (fun h => h errB)) ?_
  refine ent_skip ?_
  refine ent_k hK3 ?_
  refine ent_seq fun K5 hK5 => ?_
  refine ent_seq fun K6 hK6 => ?_
  refine ent_cut (⟨[(2, aSl 1 false aInts us), (3, aEx (.pointer (some ⟨b3_1, 0, none⟩))), (4, aEx (.pointer (some ⟨b4_2, 0, none⟩))), (65, aBool (decide ((((((((¬ c.Short) ∨ (60 < (↑p.Msg.length : Int))) ∨ (60 < (↑us.length : Int))) ∨ (c.err ≠ 0)) ∨ (¬ (c.states * c.ins ≤ 4096 ∧ c.n ≤ 6))) ∨ ((c.stepsErr us) ≠ 0)) ∨ ((wtL us) = 0)) ∨ ((c.accErr p) ≠ 0))))], [oBox b7_6 55 [aInt 5, aEx (vec (some b9_4) ([[1]].length) 1), aEx (vec (some b10_5) ([0, 3, 2, 2].length) 4)], oVec (some b10_5) 4 3 1 false aInt [0, 3, 2, 2], oVec (some b9_4) 1 22 1 false aInts [[1]], oBox b4_2 55 [aInt p.D, aSl 1 false aInts p.Msg, aSl 1 false aInt p.Pot], oBox b3_1 27 [aInt c.F.P, aInt c.F.M, aSl 1 false aInt c.F.mod, aSl 1 false aRows c.Gen]]⟩) ?_ ?_
  · refine ent_region ?_
    refine ent_o rfl (ok_loadBS (k := 4) ti27 rfl rfl rfl) ?_
    refine ent_o rfl (ok_call (few_ok c) rfl) ?_
    refine ent_o rfl (ok_notD rfl) ?_
    refine ent_o rfl (ok_move rfl) ?_
    refine ent_guardXDf rfl rfl rfl rfl (fun hg28 => ?_) (fun hg28 => ?_)
    · have hFew := (Classical.not_not.1 hg28).1
      refine ent_o rfl (ok_fieldAddrEx Try.runUnderlying55 rfl Try.sizeOf42 (by decide) rfl) ?_
      refine ent_guardXT rfl rfl rfl rfl (decide_eq_false hg28) ?_
      refine ent_o rfl (ok_loadB (k := 3) Try.isAgg42 rfl rfl rfl) ?_
      refine ent_guardXT rfl rfl rfl rfl (decide_eq_false hg28) ?_
      refine ent_o rfl (ok_len rfl Try.runUnderlying42 rfl) ?_
      refine ent_guardXT rfl rfl rfl rfl (decide_eq_false hg28) ?_
      refine ent_o rfl (ok_gtr rfl rfl) ?_
      refine ent_o rfl (ok_pickF rfl (decide_eq_false hg28) rfl) ?_
      refine ent_o rfl (ok_move rfl) ?_
      refine ent_guardXDf rfl rfl rfl rfl (fun hg34 => ?_) (fun hg34 => ?_)
      · have hpl : p.Msg.length ≤ 60 := by omega
        refine ent_o rfl (ok_move rfl) ?_
        refine ent_guardXT rfl rfl rfl rfl (decide_eq_false hg34) ?_
        refine ent_o rfl (ok_len rfl Try.runUnderlying42 rfl) ?_
        refine ent_guardXT rfl rfl rfl rfl (decide_eq_false hg34) ?_
        refine ent_o rfl (ok_gtr rfl rfl) ?_
        refine ent_o rfl (ok_pickF rfl (decide_eq_false hg34) rfl) ?_
        refine ent_o rfl (ok_move rfl) ?_
        refine ent_guardXDf rfl rfl rfl rfl (fun hg39 => ?_) (fun hg39 => ?_)
        · have hul : us.length ≤ 60 := by omega
          refine ent_o rfl (ok_loadBS (k := 4) ti27 rfl rfl rfl) ?_
          refine ent_guardXT rfl rfl rfl rfl (decide_eq_false hg39) ?_
          refine ent_o rfl (ok_call (rCnvCheck_ok c (by first | rfl | assumption | omega | (simp_all; done) | grind)) rfl) ?_
          refine ent_guardXT rfl rfl rfl rfl (decide_eq_false hg39) ?_
          refine ent_o rfl (ok_neq rfl rfl) ?_
          refine ent_o rfl (ok_pickF rfl (decide_eq_false hg39) rfl) ?_
          refine ent_o rfl (ok_move rfl) ?_
          refine ent_guardXDf rfl rfl rfl rfl (fun hg44 => ?_) (fun hg44 => ?_)
          · have hOk := Cnv.err_zero.1 (Classical.not_not.1 hg44)
            have hkn := hOk.kn
            have hf1 := hFew.1
            refine ent_o rfl (ok_loadBS (k := 4) ti27 rfl rfl rfl) ?_
            refine ent_guardXT rfl rfl rfl rfl (decide_eq_false hg44) ?_
            refine ent_o rfl (ok_call (rSmall_ok c 4096 (by first | rfl | assumption | omega | (simp_all; done) | grind) (by first | rfl | assumption | omega | (simp_all; done) | grind)) rfl) ?_
            refine ent_guardXT rfl rfl rfl rfl (decide_eq_false hg44) ?_
            refine ent_o rfl (ok_notD rfl) ?_
            refine ent_o rfl (ok_pickF rfl (decide_eq_false hg44) rfl) ?_
            refine ent_o rfl (ok_move rfl) ?_
            refine ent_guardXDf rfl rfl rfl rfl (fun hg49 => ?_) (fun hg49 => ?_)
            · refine ent_o rfl (ok_loadBS (k := 4) ti27 rfl rfl rfl) ?_
              refine ent_guardXT rfl rfl rfl rfl (decide_eq_false hg49) ?_
              refine ent_o rfl (ok_move rfl) ?_
              refine ent_guardXT rfl rfl rfl rfl (decide_eq_false hg49) ?_
              refine ent_o rfl (ok_call (rSteps_ok c us) rfl) ?_
              refine ent_guardXT rfl rfl rfl rfl (decide_eq_false hg49) ?_
              refine ent_o rfl (ok_neq rfl rfl) ?_
              refine ent_o rfl (ok_pickF rfl (decide_eq_false hg49) rfl) ?_
              refine ent_o rfl (ok_move rfl) ?_
              refine ent_guardXDf rfl rfl rfl rfl (fun hg55 => ?_) (fun hg55 => ?_)
              · have hG := Cnv.stepsErr_zero.1 (Classical.not_not.1 hg55)
                have hrp : ∀ r ∈ us, (r.length : Int) ≤ 10000 := by intro r hr; rw [Cnv.good_row hG r hr]; omega
                refine ent_o rfl (ok_move rfl) ?_
                refine ent_guardXT rfl rfl rfl rfl (decide_eq_false hg55) ?_
                refine ent_o rfl (ok_call (rWeight_ok us (by omega) hrp) rfl) ?_
                refine ent_guardXT rfl rfl rfl rfl (decide_eq_false hg55) ?_
                refine ent_o rfl (ok_eql rfl rfl) ?_
                refine ent_o rfl (ok_pickF rfl (decide_eq_false hg55) rfl) ?_
                refine ent_o rfl (ok_move rfl) ?_
                refine ent_guardXDf rfl rfl rfl rfl (fun hg60 => ?_) (fun hg60 => ?_)
                · refine ent_o rfl (ok_loadBS (k := 4) ti27 rfl rfl rfl) ?_
                  refine ent_guardXT rfl rfl rfl rfl (decide_eq_false hg60) ?_
                  refine ent_o rfl (ok_loadBS (k := 3) ti55 rfl rfl rfl) ?_
                  refine ent_guardXT rfl rfl rfl rfl (decide_eq_false hg60) ?_
                  refine ent_o rfl (ok_call (CheckFree_ok c p (by first | rfl | assumption | omega | (simp_all; done) | grind) (by first | rfl | assumption | omega | (simp_all; done) | grind)) rfl) ?_
                  refine ent_guardXT rfl rfl rfl rfl (decide_eq_false hg60) ?_
                  refine ent_o rfl (ok_neq rfl rfl) ?_
                  refine ent_o rfl (ok_pickF rfl (decide_eq_false hg60) rfl) ?_
                  refine ent_nil ?_
                  exact ent_rep ⟨rfl, rfl, rfl, slot_bool (dq_Q ((or_iff_right (fun h => h.elim (fun h => h.elim (fun h => h.elim (fun h => h.elim (fun h => h.elim (fun h => h.elim hg28 hg34) hg39) hg44) hg49) hg55) hg60)).trans Iff.rfl)), trivial⟩ rfl
                · refine ent_guardXF rfl rfl rfl rfl (decide_eq_true hg60) ?_
                  refine ent_guardXF rfl rfl rfl rfl (decide_eq_true hg60) ?_
                  refine ent_guardXF rfl rfl rfl rfl (decide_eq_true hg60) ?_
                  refine ent_o rfl (ok_pickT rfl (decide_eq_true hg60) rfl) ?_
                  refine ent_nil ?_
                  exact ent_rep ⟨rfl, rfl, rfl, slot_bool (dq_T rfl (Or.inl (Or.inr hg60))), trivial⟩ rfl
              · refine ent_guardXF rfl rfl rfl rfl (decide_eq_true hg55) ?_
                refine ent_guardXF rfl rfl rfl rfl (decide_eq_true hg55) ?_
                refine ent_o rfl (ok_pickT rfl (decide_eq_true hg55) rfl) ?_
                refine ent_o rfl (ok_move rfl) ?_
                refine ent_guardXF rfl rfl rfl rfl rfl ?_
                refine ent_guardXF rfl rfl rfl rfl rfl ?_
                refine ent_guardXF rfl rfl rfl rfl rfl ?_
                refine ent_guardXF rfl rfl rfl rfl rfl ?_
                refine ent_o rfl (ok_pickT rfl rfl rfl) ?_
                refine ent_nil ?_
                exact ent_rep ⟨rfl, rfl, rfl, slot_bool (dq_T rfl (Or.inl (Or.inl (Or.inr hg55)))), trivial⟩ rfl
            · refine ent_guardXF rfl rfl rfl rfl (decide_eq_true hg49) ?_
              refine ent_guardXF rfl rfl rfl rfl (decide_eq_true hg49) ?_
              refine ent_guardXF rfl rfl rfl rfl (decide_eq_true hg49) ?_
              refine ent_o rfl (ok_pickT rfl (decide_eq_true hg49) rfl) ?_
              refine ent_o rfl (ok_move rfl) ?_
              refine ent_guardXF rfl rfl rfl rfl rfl ?_
              refine ent_guardXF rfl rfl rfl rfl rfl ?_
              refine ent_guardXF rfl rfl rfl rfl rfl ?_
              refine ent_o rfl (ok_pickT rfl rfl rfl) ?_
              refine ent_o rfl (ok_move rfl) ?_
              refine ent_guardXF rfl rfl rfl rfl rfl ?_
              refine ent_guardXF rfl rfl rfl rfl rfl ?_
              refine ent_guardXF rfl rfl rfl rfl rfl ?_
              refine ent_guardXF rfl rfl rfl rfl rfl ?_
              refine ent_o rfl (ok_pickT rfl rfl rfl) ?_
              refine ent_nil ?_
              exact ent_rep ⟨rfl, rfl, rfl, slot_bool (dq_T rfl (Or.inl (Or.inl (Or.inl (Or.inr hg49))))), trivial⟩ rfl
          · refine ent_guardXF rfl rfl rfl rfl (decide_eq_true hg44) ?_
            refine ent_guardXF rfl rfl rfl rfl (decide_eq_true hg44) ?_
            refine ent_o rfl (ok_pickT rfl (decide_eq_true hg44) rfl) ?_
            refine ent_o rfl (ok_move rfl) ?_
            refine ent_guardXF rfl rfl rfl rfl rfl ?_
            refine ent_guardXF rfl rfl rfl rfl rfl ?_
            refine ent_guardXF rfl rfl rfl rfl rfl ?_
            refine ent_guardXF rfl rfl rfl rfl rfl ?_
            refine ent_o rfl (ok_pickT rfl rfl rfl) ?_
            refine ent_o rfl (ok_move rfl) ?_
            refine ent_guardXF rfl rfl rfl rfl rfl ?_
            refine ent_guardXF rfl rfl rfl rfl rfl ?_
            refine ent_guardXF rfl rfl rfl rfl rfl ?_
            refine ent_o rfl (ok_pickT rfl rfl rfl) ?_
            refine ent_o rfl (ok_move rfl) ?_
            refine ent_guardXF rfl rfl rfl rfl rfl ?_
            refine ent_guardXF rfl rfl rfl rfl rfl ?_
            refine ent_guardXF rfl rfl rfl rfl rfl ?_
            refine ent_guardXF rfl rfl rfl rfl rfl ?_
            refine ent_o rfl (ok_pickT rfl rfl rfl) ?_
            refine ent_nil ?_
            exact ent_rep ⟨rfl, rfl, rfl, slot_bool (dq_T rfl (Or.inl (Or.inl (Or.inl (Or.inl (Or.inr hg44)))))), trivial⟩ rfl
        · refine ent_guardXF rfl rfl rfl rfl (decide_eq_true hg39) ?_
          refine ent_guardXF rfl rfl rfl rfl (decide_eq_true hg39) ?_
          refine ent_o rfl (ok_pickT rfl (decide_eq_true hg39) rfl) ?_
          refine ent_o rfl (ok_move rfl) ?_
          refine ent_guardXF rfl rfl rfl rfl rfl ?_
          refine ent_guardXF rfl rfl rfl rfl rfl ?_
          refine ent_guardXF rfl rfl rfl rfl rfl ?_
          refine ent_o rfl (ok_pickT rfl rfl rfl) ?_
          refine ent_o rfl (ok_move rfl) ?_
          refine ent_guardXF rfl rfl rfl rfl rfl ?_
          refine ent_guardXF rfl rfl rfl rfl rfl ?_
          refine ent_guardXF rfl rfl rfl rfl rfl ?_
          refine ent_guardXF rfl rfl rfl rfl rfl ?_
          refine ent_o rfl (ok_pickT rfl rfl rfl) ?_
          refine ent_o rfl (ok_move rfl) ?_
          refine ent_guardXF rfl rfl rfl rfl rfl ?_
          refine ent_guardXF rfl rfl rfl rfl rfl ?_
          refine ent_guardXF rfl rfl rfl rfl rfl ?_
          refine ent_o rfl (ok_pickT rfl rfl rfl) ?_
          refine ent_o rfl (ok_move rfl) ?_
          refine ent_guardXF rfl rfl rfl rfl rfl ?_
          refine ent_guardXF rfl rfl rfl rfl rfl ?_
          refine ent_guardXF rfl rfl rfl rfl rfl ?_
          refine ent_guardXF rfl rfl rfl rfl rfl ?_
          refine ent_o rfl (ok_pickT rfl rfl rfl) ?_
          refine ent_nil ?_
          exact ent_rep ⟨rfl, rfl, rfl, slot_bool (dq_T rfl (Or.inl (Or.inl (Or.inl (Or.inl (Or.inl (Or.inr hg39))))))), trivial⟩ rfl
      · refine ent_guardXF rfl rfl rfl rfl (decide_eq_true hg34) ?_
        refine ent_guardXF rfl rfl rfl rfl (decide_eq_true hg34) ?_
        refine ent_o rfl (ok_pickT rfl (decide_eq_true hg34) rfl) ?_
        refine ent_o rfl (ok_move rfl) ?_
        refine ent_guardXF rfl rfl rfl rfl rfl ?_
        refine ent_guardXF rfl rfl rfl rfl rfl ?_
        refine ent_guardXF rfl rfl rfl rfl rfl ?_
        refine ent_o rfl (ok_pickT rfl rfl rfl) ?_
        refine ent_o rfl (ok_move rfl) ?_
        refine ent_guardXF rfl rfl rfl rfl rfl ?_
        refine ent_guardXF rfl rfl rfl rfl rfl ?_
        refine ent_guardXF rfl rfl rfl rfl rfl ?_
        refine ent_o rfl (ok_pickT rfl rfl rfl) ?_
        refine ent_o rfl (ok_move rfl) ?_
        refine ent_guardXF rfl rfl rfl rfl rfl ?_
        refine ent_guardXF rfl rfl rfl rfl rfl ?_
        refine ent_guardXF rfl rfl rfl rfl rfl ?_
        refine ent_guardXF rfl rfl rfl rfl rfl ?_
        refine ent_o rfl (ok_pickT rfl rfl rfl) ?_
        refine ent_o rfl (ok_move rfl) ?_
        refine ent_guardXF rfl rfl rfl rfl rfl ?_
        refine ent_guardXF rfl rfl rfl rfl rfl ?_
        refine ent_guardXF rfl rfl rfl rfl rfl ?_
        refine ent_o rfl (ok_pickT rfl rfl rfl) ?_
        refine ent_o rfl (ok_move rfl) ?_
        refine ent_guardXF rfl rfl rfl rfl rfl ?_
        refine ent_guardXF rfl rfl rfl rfl rfl ?_
        refine ent_guardXF rfl rfl rfl rfl rfl ?_
        refine ent_guardXF rfl rfl rfl rfl rfl ?_
        refine ent_o rfl (ok_pickT rfl rfl rfl) ?_
        refine ent_nil ?_
        exact ent_rep ⟨rfl, rfl, rfl, slot_bool (dq_T rfl (Or.inl (Or.inl (Or.inl (Or.inl (Or.inl (Or.inl (Or.inr hg34)))))))), trivial⟩ rfl
    · refine ent_guardXF rfl rfl rfl rfl (decide_eq_true hg28) ?_
      refine ent_guardXF rfl rfl rfl rfl (decide_eq_true hg28) ?_
      refine ent_guardXF rfl rfl rfl rfl (decide_eq_true hg28) ?_
      refine ent_o rfl (ok_pickT rfl (decide_eq_true hg28) rfl) ?_
      refine ent_o rfl (ok_move rfl) ?_
      refine ent_guardXF rfl rfl rfl rfl rfl ?_
      refine ent_guardXF rfl rfl rfl rfl rfl ?_
      refine ent_guardXF rfl rfl rfl rfl rfl ?_
      refine ent_o rfl (ok_pickT rfl rfl rfl) ?_
      refine ent_o rfl (ok_move rfl) ?_
      refine ent_guardXF rfl rfl rfl rfl rfl ?_
      refine ent_guardXF rfl rfl rfl rfl rfl ?_
      refine ent_guardXF rfl rfl rfl rfl rfl ?_
      refine ent_o rfl (ok_pickT rfl rfl rfl) ?_
      refine ent_o rfl (ok_move rfl) ?_
      refine ent_guardXF rfl rfl rfl rfl rfl ?_
      refine ent_guardXF rfl rfl rfl rfl rfl ?_
      refine ent_guardXF rfl rfl rfl rfl rfl ?_
      refine ent_o rfl (ok_pickT rfl rfl rfl) ?_
      refine ent_o rfl (ok_move rfl) ?_
      refine ent_guardXF rfl rfl rfl rfl rfl ?_
      refine ent_guardXF rfl rfl rfl rfl rfl ?_
      refine ent_guardXF rfl rfl rfl rfl rfl ?_
      refine ent_guardXF rfl rfl rfl rfl rfl ?_
      refine ent_o rfl (ok_pickT rfl rfl rfl) ?_
      refine ent_o rfl (ok_move rfl) ?_
      refine ent_guardXF rfl rfl rfl rfl rfl ?_
      refine ent_guardXF rfl rfl rfl rfl rfl ?_
      refine ent_guardXF rfl rfl rfl rfl rfl ?_
      refine ent_o rfl (ok_pickT rfl rfl rfl) ?_
      refine ent_o rfl (ok_move rfl) ?_
      refine ent_guardXF rfl rfl rfl rfl rfl ?_
      refine ent_guardXF rfl rfl rfl rfl rfl ?_
      refine ent_guardXF rfl rfl rfl rfl rfl ?_
      refine ent_guardXF rfl rfl rfl rfl rfl ?_
      refine ent_o rfl (ok_pickT rfl rfl rfl) ?_
      refine ent_nil ?_
      exact ent_rep ⟨rfl, rfl, rfl, slot_bool (dq_T rfl (Or.inl (Or.inl (Or.inl (Or.inl (Or.inl (Or.inl (Or.inl hg28)))))))), trivial⟩ rfl
  refine ent_k hK6 ?_
  refine ent_condD rfl (fun h65 => ?_) (fun h65 => ?_)
  · refine ent_seq fun K7 hK7 => ?_
    refine ent_region ?_
    refine ent_o rfl (ok_assign rfl) ?_
    refine ent_nil ?_
    refine ent_k hK7 ?_
    refine ent_ret ?_
    exact retR1 (.inr rfl) Try.results12 (resr_tmp (res_cv rfl (cv_bool (by first | rfl | exact decide_eq_true hbd))))
  · have hFew : c.Few := by by_cases g : c.Short; exact g.1; exact absurd (.inl (.inl (.inl (.inl (.inl (.inl (.inl g))))))) h65
    have hpl : p.Msg.length ≤ 60 := by by_cases g : p.Msg.length ≤ 60; exact g; exact absurd (.inl (.inl (.inl (.inl (.inl (.inl (.inr (by omega)))))))) h65
    have hul : us.length ≤ 60 := by by_cases g : us.length ≤ 60; exact g; exact absurd (.inl (.inl (.inl (.inl (.inl (.inr (by omega))))))) h65
    have h00 : c.err = 0 := by by_cases g : c.err = 0; exact g; exact absurd (.inl (.inl (.inl (.inl (.inr g))))) h65
    have hOk := Cnv.err_zero.1 h00
    have hq2 := hOk.fld.1.bd.2.2.2.2.2.1
    have hnl := hOk.len
    have hm4 := hFew.mem_le
    have hG : c.GoodU us := by by_cases g : c.stepsErr us = 0; exact Cnv.stepsErr_zero.1 g; exact absurd (.inl (.inl (.inr g))) h65
    have hw0 : wtL us ≠ 0 := fun g => h65 (.inl (.inr g))
    have hA : c.Acc p := by by_cases g : c.Acc p; exact g; exact absurd (.inr (by rw [Cnv.accErr_no h00 g]; decide)) h65
    have hgt : c.GoodU (c.term us) := Cnv.GoodU.term hq2 hG c.mem
    have ltm : (c.term us).length = us.length + c.mem.toNat := Cnv.length_termTo us c.mem
    have hEr := Cnv.encL_eq (us := c.term us) hOk hgt
    have hrl : ∀ r ∈ c.refL (c.term us), (r.length : Int) ≤ 10000 := by rw [← hEr]; intro r hr; rw [Cnv.encL_row r hr]; omega
    have lrl : (c.refL (c.term us)).length ≤ 10000 := by rw [← hEr, Cnv.length_encL]; omega
    have hbd := Cnv.acc_bound hOk hA hG hw0
    rw [hEr] at hbd
    refine ent_skip ?_
    refine ent_k hK5 ?_
    refine ent_seq fun K8 hK8 => ?_
    refine ent_draw 10 mixed (by kernel_rfl) (by kernel_rfl) (by kernel_rfl) ?_
    refine dw_o rfl (ok_loadBS (k := 4) ti27 rfl rfl rfl) ?_
    refine dw_o rfl (ok_loadBS (k := 4) ti27 rfl rfl rfl) ?_
    refine dw_o rfl (ok_move rfl) ?_
    refine dw_o rfl (ok_call (rTerminate_ok c us (by first | rfl | assumption | omega | (simp_all; done) | grind) (by omega)) rfl) ?_
    refine dw_o rfl (ok_call (rEncode_ok c (c.term us) (by first | rfl | assumption | omega | (simp_all; done) | grind) (by first | rfl | assumption | omega | (simp_all; done) | grind) hgt (by omega)) rfl) ?_
    refine dw_o rfl (ok_call (rWeight_ok (c.refL (c.term us)) lrl hrl) rfl) ?_
    refine dw_o rfl (ok_fieldAddrEx Try.runUnderlying55 rfl Try.sizeOf3 (by decide) rfl) ?_
    refine dw_o rfl (ok_loadB (k := 3) Try.isAgg3 rfl rfl rfl) ?_
    refine dw_o rfl (ok_geq rfl rfl) ?_
    refine dw_o rfl (ok_assign rfl) ?_
    refine dw_nil ?_
    refine ent_nil ?_
    refine ent_k hK8 ?_
    refine ent_ret ?_
    exact retR1 (.inr rfl) Try.results12 (resr_tmp (res_cv rfl (cv_bool (by first | rfl | exact decide_eq_true hbd))))
end Go.Proofs.Ytfjhbdfgbpcchaa
