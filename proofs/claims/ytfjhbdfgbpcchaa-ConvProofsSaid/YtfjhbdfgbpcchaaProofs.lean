/-
  The law ConvProofs.
-/
import Derived.Test.YtfjhbdfgbpcchaaProg
import Derived.Test.YtfjhbdfgbpcchaaTab
import Derived.Test.YtfjhbdfgbpcchaaCy
import Derived.Test.YtfjhbdfgbpcchaaPlainY
import Derived.Test.YtfjhbdfgbpcchaaFieldA
import Derived.Test.YtfjhbdfgbpcchaaFieldB
import Derived.Test.YtfjhbdfgbpcchaaFieldC
import Derived.Test.YtfjhbdfgbpcchaaFieldE
import Derived.Test.YtfjhbdfgbpcchaaPoly
import Derived.Test.YtfjhbdfgbpcchaaBuild
import Derived.Test.YtfjhbdfgbpcchaaRefC
import Derived.Test.YtfjhbdfgbpcchaaStep
import Derived.Test.YtfjhbdfgbpcchaaRefN
import Derived.Test.YtfjhbdfgbpcchaaNext
import Derived.Test.YtfjhbdfgbpcchaaEncode
import Derived.Test.YtfjhbdfgbpcchaaTerm
import Derived.Test.YtfjhbdfgbpcchaaAdd
import Derived.Test.YtfjhbdfgbpcchaaDigits
import Derived.Test.YtfjhbdfgbpcchaaEdges
import Derived.Test.YtfjhbdfgbpcchaaReach
import Derived.Test.YtfjhbdfgbpcchaaCheckF
import Derived.Test.YtfjhbdfgbpcchaaAccept
open Go Go.Cw
namespace Go.Proofs.Ytfjhbdfgbpcchaa
set_option maxRecDepth 100000
set_option linter.unusedVariables false
set_option linter.unusedSimpArgs false
theorem ConvProofs_ok (c : Cnv) (p : Cnv.Fp)  : Ctr Try.prog 11 [aCnv c, aFp p] (aBool true) := by
  refine ctr_of Try.call11 Try.func11 rfl rfl ?_
  intro w O
  refine ent_lenC 0 2 rfl rfl (fun hlen0_2 => ?_)
  refine ent_lenC 0 3 rfl rfl (fun hlen0_3 => ?_)
  refine ent_lenC 1 1 rfl rfl (fun hlen1_1 => ?_)
  refine ent_lenC 1 2 rfl rfl (fun hlen1_2 => ?_)
  refine ent_seq fun K1 hK1 => ?_
  refine ent_region ?_
  refine ent_boxS rfl rfl (AllOne.mem ⟨(one_int _), (one_int _), one_sl, one_sl, trivial⟩) (fun b2_1 => ?_)
  refine ent_boxS rfl rfl (AllOne.mem ⟨(one_int _), one_sl, one_sl, trivial⟩) (fun b3_2 => ?_)
  refine ent_o rfl (ok_assign rfl) ?_
  refine ent_nil ?_
  refine ent_k hK1 ?_
  refine ent_seq fun K2 hK2 => ?_
  refine ent_seq fun K3 hK3 => ?_
  refine ent_cut (⟨[(2, aEx (.pointer (some ⟨b2_1, 0, none⟩))), (3, aEx (.pointer (some ⟨b3_2, 0, none⟩))), (17, aBool (decide ((c.Short ∧ (c.err = 0)) ∧ (¬ (c.states * c.ins ≤ 512 ∧ c.n ≤ 6)))))], [oBox b3_2 55 [aInt p.D, aSl 1 false aInts p.Msg, aSl 1 false aInt p.Pot], oBox b2_1 27 [aInt c.F.P, aInt c.F.M, aSl 1 false aInt c.F.mod, aSl 1 false aRows c.Gen]]⟩) ?_ ?_
  · refine ent_region ?_
    refine ent_o rfl (ok_loadBS (k := 1) ti27 rfl rfl rfl) ?_
    refine ent_o rfl (ok_call (few_ok c) rfl) ?_
    refine ent_o rfl (ok_move rfl) ?_
    refine ent_guardXDt rfl rfl rfl rfl (fun hg8 => ?_) (fun hg8 => ?_)
    · have hFew := hg8.1
      refine ent_o rfl (ok_loadBS (k := 1) ti27 rfl rfl rfl) ?_
      refine ent_guardXT rfl rfl rfl rfl (decide_eq_true hg8) ?_
      refine ent_o rfl (ok_call (rCnvCheck_ok c (by first | rfl | assumption | omega | (simp_all; done) | grind)) rfl) ?_
      refine ent_guardXT rfl rfl rfl rfl (decide_eq_true hg8) ?_
      refine ent_o rfl (ok_eql rfl rfl) ?_
      refine ent_o rfl (ok_pickT rfl (decide_eq_true hg8) rfl) ?_
      refine ent_o rfl (ok_move rfl) ?_
      refine ent_guardXDt rfl rfl rfl rfl (fun hg13 => ?_) (fun hg13 => ?_)
      · have hOk := Cnv.err_zero.1 hg13
        refine ent_o rfl (ok_loadBS (k := 1) ti27 rfl rfl rfl) ?_
        refine ent_guardXT rfl rfl rfl rfl (decide_eq_true hg13) ?_
        refine ent_o rfl (ok_call (rSmall_ok c 512 (by first | rfl | assumption | omega | (simp_all; done) | grind) (by first | rfl | assumption | omega | (simp_all; done) | grind)) rfl) ?_
        refine ent_guardXT rfl rfl rfl rfl (decide_eq_true hg13) ?_
        refine ent_o rfl (ok_notD rfl) ?_
        refine ent_o rfl (ok_pickT rfl (decide_eq_true hg13) rfl) ?_
        refine ent_nil ?_
        exact ent_rep ⟨rfl, rfl, slot_bool (dq_Q ((and_iff_right ⟨hg8, hg13⟩).trans Iff.rfl)), trivial⟩ rfl
      · refine ent_guardXF rfl rfl rfl rfl (decide_eq_false hg13) ?_
        refine ent_guardXF rfl rfl rfl rfl (decide_eq_false hg13) ?_
        refine ent_o rfl (ok_pickF rfl (decide_eq_false hg13) rfl) ?_
        refine ent_nil ?_
        exact ent_rep ⟨rfl, rfl, slot_bool (dq_F rfl (fun h => (fun h => hg13 h.2) h.1)), trivial⟩ rfl
    · refine ent_guardXF rfl rfl rfl rfl (decide_eq_false hg8) ?_
      refine ent_guardXF rfl rfl rfl rfl (decide_eq_false hg8) ?_
      refine ent_o rfl (ok_pickF rfl (decide_eq_false hg8) rfl) ?_
      refine ent_o rfl (ok_move rfl) ?_
      refine ent_guardXF rfl rfl rfl rfl rfl ?_
      refine ent_guardXF rfl rfl rfl rfl rfl ?_
      refine ent_guardXF rfl rfl rfl rfl rfl ?_
      refine ent_o rfl (ok_pickF rfl rfl rfl) ?_
      refine ent_nil ?_
      exact ent_rep ⟨rfl, rfl, slot_bool (dq_F rfl (fun h => (fun h => hg8 h.1) h.1)), trivial⟩ rfl
  refine ent_k hK3 ?_
  refine ent_condD rfl (fun h17 => ?_) (fun h17 => ?_)
  · refine ent_seq fun K4 hK4 => ?_
    refine ent_region ?_
    refine ent_o rfl (ok_assign rfl) ?_
    refine ent_nil ?_
    refine ent_k hK4 ?_
    refine ent_ret ?_
    exact retR1 (.inr rfl) Try.results11 (resr_tmp (res_cv rfl (cv_bool (by first | rfl | exact decide_eq_true (Cnv.accErr_err h32) | (refine decide_eq_true ?_; by_cases g : c.Acc p; exact .inl ⟨Cnv.accErr_ok h00 g, g⟩; exact .inr ⟨Cnv.accErr_no h00 g, g⟩)))))
  · refine ent_skip ?_
    refine ent_k hK2 ?_
    refine ent_seq fun K5 hK5 => ?_
    refine ent_seq fun K6 hK6 => ?_
    refine ent_cut (⟨[(2, aEx (.pointer (some ⟨b2_1, 0, none⟩))), (3, aEx (.pointer (some ⟨b3_2, 0, none⟩))), (26, aBool (decide ((¬ c.Short) ∨ (60 < (↑p.Msg.length : Int)))))], [oBox b3_2 55 [aInt p.D, aSl 1 false aInts p.Msg, aSl 1 false aInt p.Pot], oBox b2_1 27 [aInt c.F.P, aInt c.F.M, aSl 1 false aInt c.F.mod, aSl 1 false aRows c.Gen]]⟩) ?_ ?_
    · refine ent_region ?_
      refine ent_o rfl (ok_loadBS (k := 1) ti27 rfl rfl rfl) ?_
      refine ent_o rfl (ok_call (few_ok c) rfl) ?_
      refine ent_o rfl (ok_notD rfl) ?_
      refine ent_o rfl (ok_move rfl) ?_
      refine ent_guardXDf rfl rfl rfl rfl (fun hg21 => ?_) (fun hg21 => ?_)
      · refine ent_o rfl (ok_fieldAddrEx Try.runUnderlying55 rfl Try.sizeOf42 (by decide) rfl) ?_
        refine ent_guardXT rfl rfl rfl rfl (decide_eq_false hg21) ?_
        refine ent_o rfl (ok_loadB (k := 0) Try.isAgg42 rfl rfl rfl) ?_
        refine ent_guardXT rfl rfl rfl rfl (decide_eq_false hg21) ?_
        refine ent_o rfl (ok_len rfl Try.runUnderlying42 rfl) ?_
        refine ent_guardXT rfl rfl rfl rfl (decide_eq_false hg21) ?_
        refine ent_o rfl (ok_gtr rfl rfl) ?_
        refine ent_o rfl (ok_pickF rfl (decide_eq_false hg21) rfl) ?_
        refine ent_nil ?_
        exact ent_rep ⟨rfl, rfl, slot_bool (dq_Q ((or_iff_right hg21).trans Iff.rfl)), trivial⟩ rfl
      · refine ent_guardXF rfl rfl rfl rfl (decide_eq_true hg21) ?_
        refine ent_guardXF rfl rfl rfl rfl (decide_eq_true hg21) ?_
        refine ent_guardXF rfl rfl rfl rfl (decide_eq_true hg21) ?_
        refine ent_o rfl (ok_pickT rfl (decide_eq_true hg21) rfl) ?_
        refine ent_nil ?_
        exact ent_rep ⟨rfl, rfl, slot_bool (dq_T rfl (Or.inl hg21)), trivial⟩ rfl
    refine ent_k hK6 ?_
    refine ent_condD rfl (fun h26 => ?_) (fun h26 => ?_)
    · refine ent_seq fun K7 hK7 => ?_
      refine ent_region ?_
      refine ent_o rfl (ok_assign rfl) ?_
      refine ent_nil ?_
      refine ent_k hK7 ?_
      refine ent_ret ?_
      exact retR1 (.inr rfl) Try.results11 (resr_tmp (res_cv rfl (cv_bool (by first | rfl | exact decide_eq_true (Cnv.accErr_err h32) | (refine decide_eq_true ?_; by_cases g : c.Acc p; exact .inl ⟨Cnv.accErr_ok h00 g, g⟩; exact .inr ⟨Cnv.accErr_no h00 g, g⟩)))))
    · have hFew : c.Few := by by_cases g : c.Short; exact g.1; exact absurd (.inl g) h26
      have hpl : p.Msg.length ≤ 60 := by by_cases g : p.Msg.length ≤ 60; exact g; exact absurd (.inr (by omega)) h26
      refine ent_skip ?_
      refine ent_k hK5 ?_
      refine ent_seq fun K8 hK8 => ?_
      refine ent_region ?_
      refine ent_o rfl (ok_loadBS (k := 1) ti27 rfl rfl rfl) ?_
      refine ent_o rfl (ok_loadBS (k := 0) ti55 rfl rfl rfl) ?_
      refine ent_o rfl (ok_call (CheckFree_ok c p (by first | rfl | assumption | omega | (simp_all; done) | grind) (by first | rfl | assumption | omega | (simp_all; done) | grind)) rfl) ?_
      refine ent_o rfl (ok_assign rfl) ?_
      refine ent_nil ?_
      refine ent_k hK8 ?_
      refine ent_seq fun K9 hK9 => ?_
      refine ent_seq fun K10 hK10 => ?_
      refine ent_region ?_
      refine ent_o rfl (ok_loadBS (k := 1) ti27 rfl rfl rfl) ?_
      refine ent_o rfl (ok_call (rCnvCheck_ok c (by first | rfl | assumption | omega | (simp_all; done) | grind)) rfl) ?_
      refine ent_o rfl (ok_neq rfl rfl) ?_
      refine ent_nil ?_
      refine ent_k hK10 ?_
      refine ent_condD rfl (fun h32 => ?_) (fun h32 => ?_)
      · refine ent_seq fun K11 hK11 => ?_
        refine ent_region ?_
        refine ent_o rfl (ok_move rfl) ?_
        refine ent_o rfl (ok_loadBS (k := 1) ti27 rfl rfl rfl) ?_
        refine ent_o rfl (ok_call (rCnvCheck_ok c (by first | rfl | assumption | omega | (simp_all; done) | grind)) rfl) ?_
        refine ent_o rfl (ok_eql rfl rfl) ?_
        refine ent_o rfl (ok_assign rfl) ?_
        refine ent_nil ?_
        refine ent_k hK11 ?_
        refine ent_ret ?_
        exact retR1 (.inr rfl) Try.results11 (resr_tmp (res_cv rfl (cv_bool (by first | rfl | exact decide_eq_true (Cnv.accErr_err h32) | (refine decide_eq_true ?_; by_cases g : c.Acc p; exact .inl ⟨Cnv.accErr_ok h00 g, g⟩; exact .inr ⟨Cnv.accErr_no h00 g, g⟩)))))
      · have h00 := Classical.not_not.1 h32
        have hOk := Cnv.err_zero.1 h00
        refine ent_skip ?_
        refine ent_k hK9 ?_
        refine ent_seq fun K12 hK12 => ?_
        refine ent_seq fun K13 hK13 => ?_
        refine ent_region ?_
        refine ent_o rfl (ok_loadBS (k := 1) ti27 rfl rfl rfl) ?_
        refine ent_o rfl (ok_call (rSmall_ok c 512 (by first | rfl | assumption | omega | (simp_all; done) | grind) (by first | rfl | assumption | omega | (simp_all; done) | grind)) rfl) ?_
        refine ent_o rfl (ok_notD rfl) ?_
        refine ent_nil ?_
        refine ent_k hK13 ?_
        refine ent_condD rfl (fun h39 => ?_) (fun h39 => ?_)
        · refine ent_seq fun K14 hK14 => ?_
          refine ent_region ?_
          refine ent_o rfl (ok_assign rfl) ?_
          refine ent_nil ?_
          refine ent_k hK14 ?_
          refine ent_ret ?_
          exact retR1 (.inr rfl) Try.results11 (resr_tmp (res_cv rfl (cv_bool (by first | rfl | exact decide_eq_true (Cnv.accErr_err h32) | (refine decide_eq_true ?_; by_cases g : c.Acc p; exact .inl ⟨Cnv.accErr_ok h00 g, g⟩; exact .inr ⟨Cnv.accErr_no h00 g, g⟩)))))
        · refine ent_skip ?_
          refine ent_k hK12 ?_
          refine ent_seq fun K15 hK15 => ?_
          refine ent_cut (⟨[(4, aBool (decide ((((c.accErr p) = 0) ∧ (c.Acc p)) ∨ (((c.accErr p) = 13) ∧ (¬ (c.Acc p))))))], [oBox b3_2 55 [aInt p.D, aSl 1 false aInts p.Msg, aSl 1 false aInt p.Pot], oBox b2_1 27 [aInt c.F.P, aInt c.F.M, aSl 1 false aInt c.F.mod, aSl 1 false aRows c.Gen]]⟩) ?_ ?_
          · refine ent_region ?_
            refine ent_o rfl (ok_move rfl) ?_
            refine ent_o rfl (ok_eql rfl rfl) ?_
            refine ent_o rfl (ok_move rfl) ?_
            refine ent_guardXDt rfl rfl rfl rfl (fun hg42 => ?_) (fun hg42 => ?_)
            · refine ent_o rfl (ok_loadBS (k := 1) ti27 rfl rfl rfl) ?_
              refine ent_guardXT rfl rfl rfl rfl (decide_eq_true hg42) ?_
              refine ent_o rfl (ok_loadBS (k := 0) ti55 rfl rfl rfl) ?_
              refine ent_guardXT rfl rfl rfl rfl (decide_eq_true hg42) ?_
              refine ent_o rfl (ok_call (rAccept_ok c p (by first | rfl | assumption | omega | (simp_all; done) | grind) (by first | rfl | assumption | omega | (simp_all; done) | grind) (by first | rfl | assumption | omega | (simp_all; done) | grind)) rfl) ?_
              refine ent_o rfl (ok_pickT rfl (decide_eq_true hg42) rfl) ?_
              refine ent_o rfl (ok_move rfl) ?_
              refine ent_guardXDf rfl rfl rfl rfl (fun hg47 => ?_) (fun hg47 => ?_)
              · refine ent_o rfl (ok_move rfl) ?_
                refine ent_guardXT rfl rfl rfl rfl (decide_eq_false hg47) ?_
                refine ent_o rfl (ok_eql rfl rfl) ?_
                refine ent_guardXT rfl rfl rfl rfl (decide_eq_false hg47) ?_
                refine ent_o rfl (ok_move rfl) ?_
                refine ent_guardXDt rfl rfl rfl rfl (fun hg50 => ?_) (fun hg50 => ?_)
                · refine ent_o rfl (ok_loadBS (k := 1) ti27 rfl rfl rfl) ?_
                  refine ent_guardXT rfl rfl rfl rfl (decide_eq_true hg50) ?_
                  refine ent_o rfl (ok_loadBS (k := 0) ti55 rfl rfl rfl) ?_
                  refine ent_guardXT rfl rfl rfl rfl (decide_eq_true hg50) ?_
                  refine ent_o rfl (ok_call (rAccept_ok c p (by first | rfl | assumption | omega | (simp_all; done) | grind) (by first | rfl | assumption | omega | (simp_all; done) | grind) (by first | rfl | assumption | omega | (simp_all; done) | grind)) rfl) ?_
                  refine ent_guardXT rfl rfl rfl rfl (decide_eq_true hg50) ?_
                  refine ent_o rfl (ok_notD rfl) ?_
                  refine ent_guardXT rfl rfl rfl rfl (decide_eq_false hg47) ?_
                  refine ent_o rfl (ok_pickT rfl (decide_eq_true hg50) rfl) ?_
                  refine ent_o rfl (ok_pickF rfl (decide_eq_false hg47) rfl) ?_
                  refine ent_o rfl (ok_assign rfl) ?_
                  refine ent_nil ?_
                  exact ent_rep ⟨slot_bool (dq_Q ((or_iff_right (fun h => hg47 h.2)).trans ((and_iff_right hg50).trans Iff.rfl))), trivial⟩ rfl
                · refine ent_guardXF rfl rfl rfl rfl (decide_eq_false hg50) ?_
                  refine ent_guardXF rfl rfl rfl rfl (decide_eq_false hg50) ?_
                  refine ent_guardXF rfl rfl rfl rfl (decide_eq_false hg50) ?_
                  refine ent_guardXT rfl rfl rfl rfl (decide_eq_false hg47) ?_
                  refine ent_o rfl (ok_pickF rfl (decide_eq_false hg50) rfl) ?_
                  refine ent_o rfl (ok_pickF rfl (decide_eq_false hg47) rfl) ?_
                  refine ent_o rfl (ok_assign rfl) ?_
                  refine ent_nil ?_
                  exact ent_rep ⟨slot_bool (dq_F rfl (fun h => h.elim (fun h => hg47 h.2) (fun h => hg50 h.1))), trivial⟩ rfl
              · refine ent_guardXF rfl rfl rfl rfl (decide_eq_true hg47) ?_
                refine ent_guardXF rfl rfl rfl rfl (decide_eq_true hg47) ?_
                refine ent_guardU rfl rfl rfl rfl ?_
                refine ent_guardU rfl rfl rfl rfl ?_
                refine ent_guardU rfl rfl rfl rfl ?_
                refine ent_guardU rfl rfl rfl rfl ?_
                refine ent_guardXF rfl rfl rfl rfl (decide_eq_true hg47) ?_
                refine ent_o rfl (ok_pickT rfl (decide_eq_true hg47) rfl) ?_
                refine ent_o rfl (ok_assign rfl) ?_
                refine ent_nil ?_
                exact ent_rep ⟨slot_bool (dq_T rfl (Or.inl ⟨hg42, hg47⟩)), trivial⟩ rfl
            · refine ent_guardXF rfl rfl rfl rfl (decide_eq_false hg42) ?_
              refine ent_guardXF rfl rfl rfl rfl (decide_eq_false hg42) ?_
              refine ent_o rfl (ok_pickF rfl (decide_eq_false hg42) rfl) ?_
              refine ent_o rfl (ok_move rfl) ?_
              refine ent_guardXT rfl rfl rfl rfl rfl ?_
              refine ent_o rfl (ok_move rfl) ?_
              refine ent_guardXT rfl rfl rfl rfl rfl ?_
              refine ent_o rfl (ok_eql rfl rfl) ?_
              refine ent_guardXT rfl rfl rfl rfl rfl ?_
              refine ent_o rfl (ok_move rfl) ?_
              refine ent_guardXDt rfl rfl rfl rfl (fun hg50 => ?_) (fun hg50 => ?_)
              · refine ent_o rfl (ok_loadBS (k := 1) ti27 rfl rfl rfl) ?_
                refine ent_guardXT rfl rfl rfl rfl (decide_eq_true hg50) ?_
                refine ent_o rfl (ok_loadBS (k := 0) ti55 rfl rfl rfl) ?_
                refine ent_guardXT rfl rfl rfl rfl (decide_eq_true hg50) ?_
                refine ent_o rfl (ok_call (rAccept_ok c p (by first | rfl | assumption | omega | (simp_all; done) | grind) (by first | rfl | assumption | omega | (simp_all; done) | grind) (by first | rfl | assumption | omega | (simp_all; done) | grind)) rfl) ?_
                refine ent_guardXT rfl rfl rfl rfl (decide_eq_true hg50) ?_
                refine ent_o rfl (ok_notD rfl) ?_
                refine ent_guardXT rfl rfl rfl rfl rfl ?_
                refine ent_o rfl (ok_pickT rfl (decide_eq_true hg50) rfl) ?_
                refine ent_o rfl (ok_pickF rfl rfl rfl) ?_
                refine ent_o rfl (ok_assign rfl) ?_
                refine ent_nil ?_
                exact ent_rep ⟨slot_bool (dq_Q ((or_iff_right (fun h => hg42 h.1)).trans ((and_iff_right hg50).trans Iff.rfl))), trivial⟩ rfl
              · refine ent_guardXF rfl rfl rfl rfl (decide_eq_false hg50) ?_
                refine ent_guardXF rfl rfl rfl rfl (decide_eq_false hg50) ?_
                refine ent_guardXF rfl rfl rfl rfl (decide_eq_false hg50) ?_
                refine ent_guardXT rfl rfl rfl rfl rfl ?_
                refine ent_o rfl (ok_pickF rfl (decide_eq_false hg50) rfl) ?_
                refine ent_o rfl (ok_pickF rfl rfl rfl) ?_
                refine ent_o rfl (ok_assign rfl) ?_
                refine ent_nil ?_
                exact ent_rep ⟨slot_bool (dq_F rfl (fun h => h.elim (fun h => hg42 h.1) (fun h => hg50 h.1))), trivial⟩ rfl
          refine ent_k hK15 ?_
          refine ent_ret ?_
          exact retR1 (.inr rfl) Try.results11 (resr_tmp (res_cv rfl (cv_bool (by first | rfl | exact decide_eq_true (Cnv.accErr_err h32) | (refine decide_eq_true ?_; by_cases g : c.Acc p; exact .inl ⟨Cnv.accErr_ok h00 g, g⟩; exact .inr ⟨Cnv.accErr_no h00 g, g⟩)))))
end Go.Proofs.Ytfjhbdfgbpcchaa
