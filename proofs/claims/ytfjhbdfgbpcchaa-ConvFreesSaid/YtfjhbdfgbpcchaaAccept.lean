/-
  The reference's Accept.
-/
import Derived.Test.YtfjhbdfgbpcchaaProg
import Derived.Test.YtfjhbdfgbpcchaaTab
import Derived.Test.YtfjhbdfgbpcchaaCy
import Derived.Test.YtfjhbdfgbpcchaaPlainY
import Derived.Test.YtfjhbdfgbpcchaaFieldA
import Derived.Test.YtfjhbdfgbpcchaaFieldB
import Derived.Test.YtfjhbdfgbpcchaaFieldC
import Derived.Test.YtfjhbdfgbpcchaaFieldE
import Derived.Test.YtfjhbdfgbpcchaaPoly
import Derived.Test.YtfjhbdfgbpcchaaBuild
import Derived.Test.YtfjhbdfgbpcchaaRefC
import Derived.Test.YtfjhbdfgbpcchaaStep
import Derived.Test.YtfjhbdfgbpcchaaRefN
import Derived.Test.YtfjhbdfgbpcchaaEncode
import Derived.Test.YtfjhbdfgbpcchaaTerm
import Derived.Test.YtfjhbdfgbpcchaaAdd
import Derived.Test.YtfjhbdfgbpcchaaDigits
import Derived.Test.YtfjhbdfgbpcchaaEdges
import Derived.Test.YtfjhbdfgbpcchaaReach
open Go Go.Cw
namespace Go.Proofs.Ytfjhbdfgbpcchaa
set_option maxRecDepth 100000
set_option linter.unusedVariables false
set_option linter.unusedSimpArgs false
set_option maxHeartbeats 1000000 in
theorem rAccept_ok (c : Cnv) (p : Cnv.Fp) (hFew : c.Few) (hOk : c.Ok) (hpl : p.Msg.length ≤ 1000) : Ctr Try.prog 38 [aCnv c, aFp p] (aBool (decide (c.Acc p))) := by
  have hF := hOk.fld
  have hS := hF.1
  have hq := hS.bd
  have hq2 := hq.2.2.2.2.2.1
  have hik : c.k = (c.Gen.length : Int) := rfl
  have hen : c.n = ((ix [] c.Gen 0).length : Int) := rfl
  have hkn := hOk.kn
  have hnl := hOk.len
  have hi1 := Cnv.ins_pos (c := c) hq2
  have hsi := Cnv.states_ins hq2 hOk.small
  have hil := Cnv.ins_le hq2 hOk.small
  have hst := Cnv.states_le hq2 hOk.small
  have hf1 := hFew.1
  have hm4 := hFew.mem_le
  refine ctr_of Try.call38 Try.func38 rfl rfl ?_
  intro w O
  refine ent_lenC 0 2 rfl rfl (fun hlen0_2 => ?_)
  refine ent_lenC 0 3 rfl rfl (fun hlen0_3 => ?_)
  refine ent_lenC 1 1 rfl rfl (fun hlen1_1 => ?_)
  refine ent_lenC 1 2 rfl rfl (fun hlen1_2 => ?_)
  refine ent_seq fun K1 hK1 => ?_
  refine ent_region ?_
  refine ent_boxS rfl rfl (AllOne.mem ⟨(one_int _), (one_int _), one_sl, one_sl, trivial⟩) (fun b2_1 => ?_)
  refine ent_boxS rfl rfl (AllOne.mem ⟨(one_int _), one_sl, one_sl, trivial⟩) (fun b3_2 => ?_)
  refine ent_o rfl (ok_assign rfl) ?_
  refine ent_nil ?_
  refine ent_k hK1 ?_
  refine ent_seq fun K2 hK2 => ?_
  refine ent_seq fun K3 hK3 => ?_
  refine ent_cut (⟨[(2, aEx (.pointer (some ⟨b2_1, 0, none⟩))), (3, aEx (.pointer (some ⟨b3_2, 0, none⟩))), (33, aBool (decide ((((c.stepsErr p.Msg) ≠ 0) ∨ ((wtL p.Msg) = 0)) ∨ ((wtL (c.refL (c.term p.Msg))) ≠ p.D))))], [oBox b3_2 55 [aInt p.D, aSl 1 false aInts p.Msg, aSl 1 false aInt p.Pot], oBox b2_1 27 [aInt c.F.P, aInt c.F.M, aSl 1 false aInt c.F.mod, aSl 1 false aRows c.Gen]]⟩) ?_ ?_
  · refine ent_draw 23 mixed (by kernel_rfl) (by kernel_rfl) (by kernel_rfl) ?_
    refine dw_o rfl (ok_loadBS (k := 1) ti27 rfl rfl rfl) ?_
    refine dw_o rfl (ok_fieldAddrEx Try.runUnderlying55 rfl Try.sizeOf42 (by decide) rfl) ?_
    refine dw_o rfl (ok_loadB (k := 0) Try.isAgg42 rfl rfl rfl) ?_
    refine dw_o rfl (ok_call (rSteps_ok c p.Msg) rfl) ?_
    refine dw_o rfl (ok_neq rfl rfl) ?_
    refine dw_o rfl (ok_move rfl) ?_
    refine dw_guardDf rfl rfl rfl rfl (fun hg16 => ?_) (fun hg16 => ?_)
    · have hG := Cnv.stepsErr_zero.1 (Classical.not_not.1 hg16)
      have hgt : c.GoodU (c.term p.Msg) := Cnv.GoodU.term hq2 hG c.mem
      have ltm : (c.term p.Msg).length = p.Msg.length + c.mem.toNat := Cnv.length_termTo p.Msg c.mem
      have hrp : ∀ r ∈ p.Msg, (r.length : Int) ≤ 10000 := by intro r hr; rw [Cnv.good_row hG r hr]; omega
      have hrl : ∀ r ∈ c.refL (c.term p.Msg), (r.length : Int) ≤ 10000 := by rw [← Cnv.encL_eq hOk hgt]; intro r hr; rw [Cnv.encL_row r hr]; omega
      have lrl : (c.refL (c.term p.Msg)).length ≤ 10000 := by rw [← Cnv.encL_eq hOk hgt, Cnv.length_encL]; omega
      refine dw_o rfl (ok_fieldAddrEx Try.runUnderlying55 rfl Try.sizeOf42 (by decide) rfl) ?_
      refine dw_guardT rfl rfl rfl rfl (decide_eq_false hg16) ?_
      refine dw_o rfl (ok_loadB (k := 0) Try.isAgg42 rfl rfl rfl) ?_
      refine dw_guardT rfl rfl rfl rfl (decide_eq_false hg16) ?_
      refine dw_o rfl (ok_call (rWeight_ok p.Msg (by omega) hrp) rfl) ?_
      refine dw_guardT rfl rfl rfl rfl (decide_eq_false hg16) ?_
      refine dw_o rfl (ok_eql rfl rfl) ?_
      refine dw_o rfl (ok_pickF rfl (decide_eq_false hg16) rfl) ?_
      refine dw_o rfl (ok_move rfl) ?_
      refine dw_guardDf rfl rfl rfl rfl (fun hg22 => ?_) (fun hg22 => ?_)
      · refine dw_o rfl (ok_loadBS (k := 1) ti27 rfl rfl rfl) ?_
        refine dw_guardT rfl rfl rfl rfl (decide_eq_false hg22) ?_
        refine dw_o rfl (ok_loadBS (k := 1) ti27 rfl rfl rfl) ?_
        refine dw_guardT rfl rfl rfl rfl (decide_eq_false hg22) ?_
        refine dw_o rfl (ok_fieldAddrEx Try.runUnderlying55 rfl Try.sizeOf42 (by decide) rfl) ?_
        refine dw_guardT rfl rfl rfl rfl (decide_eq_false hg22) ?_
        refine dw_o rfl (ok_loadB (k := 0) Try.isAgg42 rfl rfl rfl) ?_
        refine dw_guardT rfl rfl rfl rfl (decide_eq_false hg22) ?_
        refine dw_o rfl (ok_call (rTerminate_ok c p.Msg (by first | rfl | assumption | omega | (simp_all; done) | grind) (by omega)) rfl) ?_
        refine dw_guardT rfl rfl rfl rfl (decide_eq_false hg22) ?_
        refine dw_o rfl (ok_call (rEncode_ok c (c.term p.Msg) (by first | rfl | assumption | omega | (simp_all; done) | grind) (by first | rfl | assumption | omega | (simp_all; done) | grind) hgt (by omega)) rfl) ?_
        refine dw_guardT rfl rfl rfl rfl (decide_eq_false hg22) ?_
        refine dw_o rfl (ok_call (rWeight_ok (c.refL (c.term p.Msg)) lrl hrl) rfl) ?_
        refine dw_guardT rfl rfl rfl rfl (decide_eq_false hg22) ?_
        refine dw_o rfl (ok_fieldAddrEx Try.runUnderlying55 rfl Try.sizeOf3 (by decide) rfl) ?_
        refine dw_guardT rfl rfl rfl rfl (decide_eq_false hg22) ?_
        refine dw_o rfl (ok_loadB (k := 0) Try.isAgg3 rfl rfl rfl) ?_
        refine dw_guardT rfl rfl rfl rfl (decide_eq_false hg22) ?_
        refine dw_o rfl (ok_neq rfl rfl) ?_
        refine dw_o rfl (ok_pickF rfl (decide_eq_false hg22) rfl) ?_
        refine dw_nil ?_
        refine ent_nil ?_
        exact ent_rep ⟨rfl, rfl, slot_bool (dq_Q ((or_iff_right (fun h => h.elim hg16 hg22)).trans Iff.rfl)), trivial⟩ rfl
      · refine dw_guardF rfl rfl rfl rfl (decide_eq_true hg22) ?_
        refine dw_guardF rfl rfl rfl rfl (decide_eq_true hg22) ?_
        refine dw_guardF rfl rfl rfl rfl (decide_eq_true hg22) ?_
        refine dw_guardF rfl rfl rfl rfl (decide_eq_true hg22) ?_
        refine dw_guardF rfl rfl rfl rfl (decide_eq_true hg22) ?_
        refine dw_guardF rfl rfl rfl rfl (decide_eq_true hg22) ?_
        refine dw_guardF rfl rfl rfl rfl (decide_eq_true hg22) ?_
        refine dw_guardF rfl rfl rfl rfl (decide_eq_true hg22) ?_
        refine dw_guardF rfl rfl rfl rfl (decide_eq_true hg22) ?_
        refine dw_o rfl (ok_pickT rfl (decide_eq_true hg22) rfl) ?_
        refine dw_nil ?_
        refine ent_nil ?_
        exact ent_rep ⟨rfl, rfl, slot_bool (dq_T rfl (Or.inl (Or.inr hg22))), trivial⟩ rfl
    · refine dw_guardF rfl rfl rfl rfl (decide_eq_true hg16) ?_
      refine dw_guardF rfl rfl rfl rfl (decide_eq_true hg16) ?_
      refine dw_guardF rfl rfl rfl rfl (decide_eq_true hg16) ?_
      refine dw_o rfl (ok_pickT rfl (decide_eq_true hg16) rfl) ?_
      refine dw_o rfl (ok_move rfl) ?_
      refine dw_guardF rfl rfl rfl rfl rfl ?_
      refine dw_guardF rfl rfl rfl rfl rfl ?_
      refine dw_guardF rfl rfl rfl rfl rfl ?_
      refine dw_guardF rfl rfl rfl rfl rfl ?_
      refine dw_guardF rfl rfl rfl rfl rfl ?_
      refine dw_guardF rfl rfl rfl rfl rfl ?_
      refine dw_guardF rfl rfl rfl rfl rfl ?_
      refine dw_guardF rfl rfl rfl rfl rfl ?_
      refine dw_guardF rfl rfl rfl rfl rfl ?_
      refine dw_guardF rfl rfl rfl rfl rfl ?_
      refine dw_o rfl (ok_pickT rfl rfl rfl) ?_
      refine dw_nil ?_
      refine ent_nil ?_
      exact ent_rep ⟨rfl, rfl, slot_bool (dq_T rfl (Or.inl (Or.inl hg16))), trivial⟩ rfl
  refine ent_k hK3 ?_
  refine ent_condD rfl (fun h33 => ?_) (fun h33 => ?_)
  · have hno : ¬ c.Acc p := fun h => by rcases h33 with (g | g) | g; exact g (Cnv.stepsErr_zero.2 h.1.1); exact h.1.2.1 g; exact g (by rw [← Cnv.encL_eq (us := c.term p.Msg) hOk (Cnv.GoodU.term hq2 h.1.1 c.mem)]; exact h.1.2.2)
    refine ent_seq fun K4 hK4 => ?_
    refine ent_region ?_
    refine ent_o rfl (ok_assign rfl) ?_
    refine ent_nil ?_
    refine ent_k hK4 ?_
    refine ent_ret ?_
    exact retR1 (.inr rfl) Try.results38 (resr_tmp (res_cv rfl (cv_bool (by first | exact (decide_eq_false hno).symm | exact (decide_eq_true hA).symm))))
  · have hG : c.GoodU p.Msg := by by_cases g : c.stepsErr p.Msg = 0; exact Cnv.stepsErr_zero.1 g; exact absurd (.inl (.inl g)) h33
    have hgt : c.GoodU (c.term p.Msg) := Cnv.GoodU.term hq2 hG c.mem
    have hR : c.Rch p := ⟨hG, fun g => h33 (.inl (.inr g)), by rw [show c.encL (c.term p.Msg) = c.refL (c.term p.Msg) from Cnv.encL_eq hOk hgt]; by_cases g : wtL (c.refL (c.term p.Msg)) = p.D; exact g; exact absurd (.inr g) h33⟩
    refine ent_skip ?_
    refine ent_k hK2 ?_
    refine ent_seq fun K5 hK5 => ?_
    refine ent_seq fun K6 hK6 => ?_
    refine ent_cut (⟨[(2, aEx (.pointer (some ⟨b2_1, 0, none⟩))), (3, aEx (.pointer (some ⟨b3_2, 0, none⟩))), (46, aBool (decide (((↑p.Pot.length : Int) ≠ c.states) ∨ ((ix 0 p.Pot 0) ≠ 0))))], [oBox b3_2 55 [aInt p.D, aSl 1 false aInts p.Msg, aSl 1 false aInt p.Pot], oBox b2_1 27 [aInt c.F.P, aInt c.F.M, aSl 1 false aInt c.F.mod, aSl 1 false aRows c.Gen]]⟩) ?_ ?_
    · refine ent_draw 13 mixed (by kernel_rfl) (by kernel_rfl) (by kernel_rfl) ?_
      refine dw_o rfl (ok_fieldAddrEx Try.runUnderlying55 rfl Try.sizeOf22 (by decide) rfl) ?_
      refine dw_o rfl (ok_loadB (k := 0) Try.isAgg22 rfl rfl rfl) ?_
      refine dw_o rfl (ok_len rfl Try.runUnderlying22 rfl) ?_
      refine dw_o rfl (ok_loadBS (k := 1) ti27 rfl rfl rfl) ?_
      refine dw_o rfl (ok_call (rStates_ok c (by first | rfl | assumption | omega | (simp_all; done) | grind) (by first | rfl | assumption | omega | (simp_all; done) | grind)) rfl) ?_
      refine dw_o rfl (ok_neq rfl rfl) ?_
      refine dw_o rfl (ok_move rfl) ?_
      refine dw_guardDf rfl rfl rfl rfl (fun hg40 => ?_) (fun hg40 => ?_)
      · refine dw_o rfl (ok_fieldAddrEx Try.runUnderlying55 rfl Try.sizeOf22 (by decide) rfl) ?_
        refine dw_guardT rfl rfl rfl rfl (decide_eq_false hg40) ?_
        refine dw_o rfl (ok_loadB (k := 0) Try.isAgg22 rfl rfl rfl) ?_
        refine dw_guardT rfl rfl rfl rfl (decide_eq_false hg40) ?_
        refine dw_o rfl (ok_index 0 sl22 rfl rfl (by omega) (by omega)) ?_
        refine dw_guardT rfl rfl rfl rfl (decide_eq_false hg40) ?_
        refine dw_o rfl (ok_load ti3 rfl) ?_
        refine dw_guardT rfl rfl rfl rfl (decide_eq_false hg40) ?_
        refine dw_o rfl (ok_neq rfl rfl) ?_
        refine dw_o rfl (ok_pickF rfl (decide_eq_false hg40) rfl) ?_
        refine dw_nil ?_
        refine ent_nil ?_
        exact ent_rep ⟨rfl, rfl, slot_bool (dq_Q ((or_iff_right hg40).trans Iff.rfl)), trivial⟩ rfl
      · refine dw_guardF rfl rfl rfl rfl (decide_eq_true hg40) ?_
        refine dw_guardF rfl rfl rfl rfl (decide_eq_true hg40) ?_
        refine dw_guardF rfl rfl rfl rfl (decide_eq_true hg40) ?_
        refine dw_guardF rfl rfl rfl rfl (decide_eq_true hg40) ?_
        refine dw_o rfl (ok_pickT rfl (decide_eq_true hg40) rfl) ?_
        refine dw_nil ?_
        refine ent_nil ?_
        exact ent_rep ⟨rfl, rfl, slot_bool (dq_T rfl (Or.inl hg40)), trivial⟩ rfl
    refine ent_k hK6 ?_
    refine ent_condD rfl (fun h46 => ?_) (fun h46 => ?_)
    · have hno : ¬ c.Acc p := fun h => by rcases h46 with g | g; exact g h.2.1.1; exact g h.2.1.2
      refine ent_seq fun K7 hK7 => ?_
      refine ent_region ?_
      refine ent_o rfl (ok_assign rfl) ?_
      refine ent_nil ?_
      refine ent_k hK7 ?_
      refine ent_ret ?_
      exact retR1 (.inr rfl) Try.results38 (resr_tmp (res_cv rfl (cv_bool (by first | exact (decide_eq_false hno).symm | exact (decide_eq_true hA).symm))))
    · have hPl : (p.Pot.length : Int) = c.states := by by_cases g : (p.Pot.length : Int) = c.states; exact g; exact absurd (.inl g) h46
      have hP0 : ix 0 p.Pot 0 = 0 := by by_cases g : ix 0 p.Pot 0 = 0; exact g; exact absurd (.inr g) h46
      refine ent_skip ?_
      refine ent_k hK5 ?_
      refine ent_seq fun K8 hK8 => ?_
      refine ent_seq fun K9 hK9 => ?_
      refine ent_region ?_
      refine ent_o rfl (ok_assign rfl) ?_
      refine ent_nil ?_
      refine ent_k hK9 ?_
      refine ent_block ?_
      refine ent_loop (fun (i : Int) => (⟨[(2, aEx (.pointer (some ⟨b2_1, 0, none⟩))), (3, aEx (.pointer (some ⟨b3_2, 0, none⟩))), (5, aInt i)], [oBox b3_2 55 [aInt p.D, aSl 1 false aInts p.Msg, aSl 1 false aInt p.Pot], oBox b2_1 27 [aInt c.F.P, aInt c.F.M, aSl 1 false aInt c.F.mod, aSl 1 false aRows c.Gen]]⟩ : St)) (fun (i : Int) => (0 ≤ i) ∧ (i ≤ p.Pot.length) ∧ (Cnv.potTo p i)) (fun (i : Int) => (p.Pot.length - i).toNat) 0 ⟨(by first | rfl | assumption | omega | (simp_all; done) | grind), (by first | rfl | assumption | omega | (simp_all; done) | grind), (Cnv.potTo.zero p)⟩ (ent_rep ⟨rfl, rfl, slot_av (av_int (show 0 = (0 : Int) by first | rfl | assumption | omega | (simp_all; done) | grind)), trivial⟩ rfl) ?_
      rintro i ⟨h0, h1, hpt⟩
      show Ent _ (⟨[(2, aEx (.pointer (some ⟨b2_1, 0, none⟩))), (3, aEx (.pointer (some ⟨b3_2, 0, none⟩))), (5, aInt i)], [oBox b3_2 55 [aInt p.D, aSl 1 false aInts p.Msg, aSl 1 false aInt p.Pot], oBox b2_1 27 [aInt c.F.P, aInt c.F.M, aSl 1 false aInt c.F.mod, aSl 1 false aRows c.Gen]]⟩ : St) _
      refine ent_seq fun K10 hK10 => ?_
      refine ent_seq fun K11 hK11 => ?_
      refine ent_region ?_
      refine ent_o rfl (ok_move rfl) ?_
      refine ent_o rfl (ok_fieldAddrEx Try.runUnderlying55 rfl Try.sizeOf22 (by decide) rfl) ?_
      refine ent_o rfl (ok_loadB (k := 0) Try.isAgg22 rfl rfl rfl) ?_
      refine ent_o rfl (ok_len rfl Try.runUnderlying22 rfl) ?_
      refine ent_o rfl (ok_lss rfl rfl) ?_
      refine ent_nil ?_
      refine ent_k hK11 ?_
      refine ent_condD rfl (fun h51 => ?_) (fun h51 => ?_)
      · refine ent_skip ?_
        refine ent_k hK10 ?_
        refine ent_seq fun K12 hK12 => ?_
        refine ent_block ?_
        refine ent_seq fun K13 hK13 => ?_
        refine ent_cut (⟨[(2, aEx (.pointer (some ⟨b2_1, 0, none⟩))), (3, aEx (.pointer (some ⟨b3_2, 0, none⟩))), (5, aInt i), (67, aBool (decide (((ix 0 p.Pot i) < 0) ∨ (2147483648 < (ix 0 p.Pot i)))))], [oBox b3_2 55 [aInt p.D, aSl 1 false aInts p.Msg, aSl 1 false aInt p.Pot], oBox b2_1 27 [aInt c.F.P, aInt c.F.M, aSl 1 false aInt c.F.mod, aSl 1 false aRows c.Gen]]⟩) ?_ ?_
        · refine ent_region ?_
          refine ent_o rfl (ok_fieldAddrEx Try.runUnderlying55 rfl Try.sizeOf22 (by decide) rfl) ?_
          refine ent_o rfl (ok_loadB (k := 0) Try.isAgg22 rfl rfl rfl) ?_
          refine ent_o rfl (ok_move rfl) ?_
          refine ent_o rfl (ok_index 0 sl22 rfl rfl (by omega) (by omega)) ?_
          refine ent_o rfl (ok_load ti3 rfl) ?_
          refine ent_o rfl (ok_lss rfl rfl) ?_
          refine ent_o rfl (ok_move rfl) ?_
          refine ent_guardXDf rfl rfl rfl rfl (fun hg60 => ?_) (fun hg60 => ?_)
          · refine ent_o rfl (ok_fieldAddrEx Try.runUnderlying55 rfl Try.sizeOf22 (by decide) rfl) ?_
            refine ent_guardXT rfl rfl rfl rfl (decide_eq_false hg60) ?_
            refine ent_o rfl (ok_loadB (k := 0) Try.isAgg22 rfl rfl rfl) ?_
            refine ent_guardXT rfl rfl rfl rfl (decide_eq_false hg60) ?_
            refine ent_o rfl (ok_move rfl) ?_
            refine ent_guardXT rfl rfl rfl rfl (decide_eq_false hg60) ?_
            refine ent_o rfl (ok_index 0 sl22 rfl rfl (by omega) (by omega)) ?_
            refine ent_guardXT rfl rfl rfl rfl (decide_eq_false hg60) ?_
            refine ent_o rfl (ok_load ti3 rfl) ?_
            refine ent_guardXT rfl rfl rfl rfl (decide_eq_false hg60) ?_
            refine ent_o rfl (ok_gtr rfl rfl) ?_
            refine ent_o rfl (ok_pickF rfl (decide_eq_false hg60) rfl) ?_
            refine ent_nil ?_
            exact ent_rep ⟨rfl, rfl, rfl, slot_bool (dq_Q ((or_iff_right hg60).trans Iff.rfl)), trivial⟩ rfl
          · refine ent_guardXF rfl rfl rfl rfl (decide_eq_true hg60) ?_
            refine ent_guardXF rfl rfl rfl rfl (decide_eq_true hg60) ?_
            refine ent_guardXF rfl rfl rfl rfl (decide_eq_true hg60) ?_
            refine ent_guardXF rfl rfl rfl rfl (decide_eq_true hg60) ?_
            refine ent_guardXF rfl rfl rfl rfl (decide_eq_true hg60) ?_
            refine ent_o rfl (ok_pickT rfl (decide_eq_true hg60) rfl) ?_
            refine ent_nil ?_
            exact ent_rep ⟨rfl, rfl, rfl, slot_bool (dq_T rfl (Or.inl hg60)), trivial⟩ rfl
        refine ent_k hK13 ?_
        refine ent_condD rfl (fun h67 => ?_) (fun h67 => ?_)
        · have hno : ¬ c.Acc p := fun h => h.2.2.1 (Cnv.potBad_at h0 h51 h67)
          refine ent_seq fun K14 hK14 => ?_
          refine ent_region ?_
          refine ent_o rfl (ok_assign rfl) ?_
          refine ent_nil ?_
          refine ent_k hK14 ?_
          refine ent_ret ?_
          exact retR1 (.inr rfl) Try.results38 (resr_tmp (res_cv rfl (cv_bool (by first | exact (decide_eq_false hno).symm | exact (decide_eq_true hA).symm))))
        · refine ent_skip ?_
          refine ent_k hK12 ?_
          refine ent_region ?_
          refine ent_o rfl (ok_move rfl) ?_
          refine ent_o rfl (ok_add rfl rfl (by omega) (by omega)) ?_
          refine ent_o rfl (ok_assign rfl) ?_
          refine ent_nil ?_
          refine ent_again (s := (i)) (i + 1) ⟨(by first | rfl | assumption | omega | (simp_all; done) | grind), (by first | rfl | assumption | omega | (simp_all; done) | grind), (hpt.succ h0 h51 h67)⟩ (by first | omega | (dsimp only; omega)) (ent_rep ⟨rfl, rfl, rfl, trivial⟩ rfl)
      · have hpb := hpt.all (show p.Pot.length ≤ i by omega)
        refine ent_exit ?_
        refine ent_k hK8 ?_
        refine ent_seq fun K15 hK15 => ?_
        refine ent_seq fun K16 hK16 => ?_
        refine ent_region ?_
        refine ent_o rfl (ok_assign rfl) ?_
        refine ent_nil ?_
        refine ent_k hK16 ?_
        refine ent_block ?_
        refine ent_loop (fun (s : Int) => (⟨[(2, aEx (.pointer (some ⟨b2_1, 0, none⟩))), (3, aEx (.pointer (some ⟨b3_2, 0, none⟩))), (6, aInt s)], [oBox b3_2 55 [aInt p.D, aSl 1 false aInts p.Msg, aSl 1 false aInt p.Pot], oBox b2_1 27 [aInt c.F.P, aInt c.F.M, aSl 1 false aInt c.F.mod, aSl 1 false aRows c.Gen]]⟩ : St)) (fun (s : Int) => (0 ≤ s) ∧ (s ≤ p.Pot.length) ∧ (c.GoodS p s)) (fun (s : Int) => (p.Pot.length - s).toNat) 0 ⟨(by first | rfl | assumption | omega | (simp_all; done) | grind), (by first | rfl | assumption | omega | (simp_all; done) | grind), (Cnv.GoodS.zero p)⟩ (ent_rep ⟨rfl, rfl, slot_av (av_int (show 0 = (0 : Int) by first | rfl | assumption | omega | (simp_all; done) | grind)), trivial⟩ rfl) ?_
        rintro s ⟨s0, s1, hgs⟩
        show Ent _ (⟨[(2, aEx (.pointer (some ⟨b2_1, 0, none⟩))), (3, aEx (.pointer (some ⟨b3_2, 0, none⟩))), (6, aInt s)], [oBox b3_2 55 [aInt p.D, aSl 1 false aInts p.Msg, aSl 1 false aInt p.Pot], oBox b2_1 27 [aInt c.F.P, aInt c.F.M, aSl 1 false aInt c.F.mod, aSl 1 false aRows c.Gen]]⟩ : St) _
        refine ent_seq fun K17 hK17 => ?_
        refine ent_seq fun K18 hK18 => ?_
        refine ent_region ?_
        refine ent_o rfl (ok_move rfl) ?_
        refine ent_o rfl (ok_fieldAddrEx Try.runUnderlying55 rfl Try.sizeOf22 (by decide) rfl) ?_
        refine ent_o rfl (ok_loadB (k := 0) Try.isAgg22 rfl rfl rfl) ?_
        refine ent_o rfl (ok_len rfl Try.runUnderlying22 rfl) ?_
        refine ent_o rfl (ok_lss rfl rfl) ?_
        refine ent_nil ?_
        refine ent_k hK18 ?_
        refine ent_condD rfl (fun h72 => ?_) (fun h72 => ?_)
        · refine ent_skip ?_
          refine ent_k hK17 ?_
          refine ent_seq fun K19 hK19 => ?_
          refine ent_block ?_
          refine ent_seq fun K20 hK20 => ?_
          refine ent_region ?_
          refine ent_o rfl (ok_assign rfl) ?_
          refine ent_nil ?_
          refine ent_k hK20 ?_
          refine ent_block ?_
          refine ent_loop (fun (x : Int) => (⟨[(2, aEx (.pointer (some ⟨b2_1, 0, none⟩))), (3, aEx (.pointer (some ⟨b3_2, 0, none⟩))), (6, aInt s), (7, aInt x)], [oBox b3_2 55 [aInt p.D, aSl 1 false aInts p.Msg, aSl 1 false aInt p.Pot], oBox b2_1 27 [aInt c.F.P, aInt c.F.M, aSl 1 false aInt c.F.mod, aSl 1 false aRows c.Gen]]⟩ : St)) (fun (x : Int) => (0 ≤ x) ∧ (x ≤ c.ins) ∧ (c.GoodX p s x)) (fun (x : Int) => (c.ins - x).toNat) 0 ⟨(by first | rfl | assumption | omega | (simp_all; done) | grind), (by first | rfl | assumption | omega | (simp_all; done) | grind), (Cnv.GoodX.zero p s)⟩ (ent_rep ⟨rfl, rfl, rfl, slot_av (av_int (show 0 = (0 : Int) by first | rfl | assumption | omega | (simp_all; done) | grind)), trivial⟩ rfl) ?_
          rintro x ⟨x0, x1, hgx2⟩
          show Ent _ (⟨[(2, aEx (.pointer (some ⟨b2_1, 0, none⟩))), (3, aEx (.pointer (some ⟨b3_2, 0, none⟩))), (6, aInt s), (7, aInt x)], [oBox b3_2 55 [aInt p.D, aSl 1 false aInts p.Msg, aSl 1 false aInt p.Pot], oBox b2_1 27 [aInt c.F.P, aInt c.F.M, aSl 1 false aInt c.F.mod, aSl 1 false aRows c.Gen]]⟩ : St) _
          refine ent_seq fun K21 hK21 => ?_
          refine ent_seq fun K22 hK22 => ?_
          refine ent_region ?_
          refine ent_o rfl (ok_move rfl) ?_
          refine ent_o rfl (ok_loadBS (k := 1) ti27 rfl rfl rfl) ?_
          refine ent_o rfl (ok_call (rInputs_ok c (by first | rfl | assumption | omega | (simp_all; done) | grind) (by first | rfl | assumption | omega | (simp_all; done) | grind)) rfl) ?_
          refine ent_o rfl (ok_lss rfl rfl) ?_
          refine ent_nil ?_
          refine ent_k hK22 ?_
          refine ent_condD rfl (fun h78 => ?_) (fun h78 => ?_)
          · have hgx := Cnv.inp_good (c := c) hq2 x
            have hnb := Cnv.nxt_states (s := s) hq2 hgx
            have hwb := Cnv.eWt_le (c := c) (s := s) (inn := c.inp x)
            have hpo := Cnv.pot_ok hpb (c.nxt s (c.inp x) c.Gen.length)
            have hlo := Cnv.length_outL (c := c) s (c.inp x)
            have hw1 := wtL_single (c.outL s (c.inp x))
            rw [← hw1] at hwb
            refine ent_skip ?_
            refine ent_k hK21 ?_
            refine ent_seq fun K23 hK23 => ?_
            refine ent_block ?_
            refine ent_seq fun K24 hK24 => ?_
            refine ent_draw 11 mixed (by kernel_rfl) (by kernel_rfl) (by kernel_rfl) ?_
            refine dw_o rfl (ok_loadBS (k := 1) ti27 rfl rfl rfl) ?_
            refine dw_o rfl (ok_move rfl) ?_
            refine dw_o rfl (ok_loadBS (k := 1) ti27 rfl rfl rfl) ?_
            refine dw_o rfl (ok_move rfl) ?_
            refine dw_o rfl (ok_call (CtrF.ctr (rInput_ok c x (by first | rfl | assumption | omega | (simp_all; done) | grind) (by first | rfl | assumption | omega | (simp_all; done) | grind) (by first | rfl | assumption | omega | (simp_all; done) | grind) (by omega))) rfl) ?_
            refine dw_o rfl (ok_call (CtrF.ctr (rNext_ok c s (c.inp x) (by first | rfl | assumption | omega | (simp_all; done) | grind) (by first | rfl | assumption | omega | (simp_all; done) | grind) s0 (by omega) hgx)) rfl) ?_
            refine dw_o rfl (ok_move rfl) ?_
            refine dw_o rfl (ok_extract rfl rfl) ?_
            refine dw_o rfl (ok_extract rfl rfl) ?_
            refine dw_o rfl (ok_assign rfl) ?_
            refine dw_o rfl (ok_assign rfl) ?_
            refine dw_nil ?_
            refine ent_nil ?_
            refine ent_k hK24 ?_
            refine ent_seq fun K25 hK25 => ?_
            refine ent_draw 10 mixed (by kernel_rfl) (by kernel_rfl) (by kernel_rfl) ?_
            refine dw_o rfl (ok_move rfl) ?_
            refine dw_o rfl (ok_build1 (enc := aInts) (y := c.outL s (c.inp x)) vt42 rfl (elem_one one_sl) (by decide)) ?_
            refine dw_o rfl (ok_call (rWeight_ok [c.outL s (c.inp x)] (by simp) (by intro r hr; rw [List.mem_singleton] at hr; rw [hr]; omega)) rfl) ?_
            refine dw_o rfl (ok_fieldAddrEx Try.runUnderlying55 rfl Try.sizeOf22 (by decide) rfl) ?_
            refine dw_o rfl (ok_loadB (k := 0) Try.isAgg22 rfl rfl rfl) ?_
            refine dw_o rfl (ok_move rfl) ?_
            refine dw_o rfl (ok_index 0 sl22 rfl rfl (by omega) (by omega)) ?_
            refine dw_o rfl (ok_load ti3 rfl) ?_
            refine dw_o rfl (ok_add rfl rfl (by omega) (by omega)) ?_
            refine dw_o rfl (ok_assign rfl) ?_
            refine dw_nil ?_
            refine ent_nil ?_
            refine ent_k hK25 ?_
            refine ent_seq fun K26 hK26 => ?_
            refine ent_cut (⟨[(2, aEx (.pointer (some ⟨b2_1, 0, none⟩))), (3, aEx (.pointer (some ⟨b3_2, 0, none⟩))), (6, aInt s), (7, aInt x), (123, aBool (decide (((0 < s) ∧ (((wtL [c.outL s (c.inp x)]) + (ix 0 p.Pot (c.nxt s (c.inp x) c.Gen.length))) < (ix 0 p.Pot s))) ∨ (((s = 0) ∧ (0 < x)) ∧ (((wtL [c.outL s (c.inp x)]) + (ix 0 p.Pot (c.nxt s (c.inp x) c.Gen.length))) < p.D)))))], [oBox b3_2 55 [aInt p.D, aSl 1 false aInts p.Msg, aSl 1 false aInt p.Pot], oBox b2_1 27 [aInt c.F.P, aInt c.F.M, aSl 1 false aInt c.F.mod, aSl 1 false aRows c.Gen]]⟩) ?_ ?_
            · refine ent_region ?_
              refine ent_o rfl (ok_move rfl) ?_
              refine ent_o rfl (ok_gtr rfl rfl) ?_
              refine ent_o rfl (ok_move rfl) ?_
              refine ent_guardXDt rfl rfl rfl rfl (fun hg101 => ?_) (fun hg101 => ?_)
              · refine ent_o rfl (ok_fieldAddrEx Try.runUnderlying55 rfl Try.sizeOf22 (by decide) rfl) ?_
                refine ent_guardXT rfl rfl rfl rfl (decide_eq_true hg101) ?_
                refine ent_o rfl (ok_loadB (k := 0) Try.isAgg22 rfl rfl rfl) ?_
                refine ent_guardXT rfl rfl rfl rfl (decide_eq_true hg101) ?_
                refine ent_o rfl (ok_move rfl) ?_
                refine ent_guardXT rfl rfl rfl rfl (decide_eq_true hg101) ?_
                refine ent_o rfl (ok_index 0 sl22 rfl rfl (by omega) (by omega)) ?_
                refine ent_guardXT rfl rfl rfl rfl (decide_eq_true hg101) ?_
                refine ent_o rfl (ok_load ti3 rfl) ?_
                refine ent_guardXT rfl rfl rfl rfl (decide_eq_true hg101) ?_
                refine ent_o rfl (ok_move rfl) ?_
                refine ent_guardXT rfl rfl rfl rfl (decide_eq_true hg101) ?_
                refine ent_o rfl (ok_gtr rfl rfl) ?_
                refine ent_o rfl (ok_pickT rfl (decide_eq_true hg101) rfl) ?_
                refine ent_o rfl (ok_move rfl) ?_
                refine ent_guardXDf rfl rfl rfl rfl (fun hg110 => ?_) (fun hg110 => ?_)
                · refine ent_o rfl (ok_move rfl) ?_
                  refine ent_guardXT rfl rfl rfl rfl (decide_eq_false hg110) ?_
                  refine ent_o rfl (ok_eql rfl rfl) ?_
                  refine ent_guardXT rfl rfl rfl rfl (decide_eq_false hg110) ?_
                  refine ent_o rfl (ok_move rfl) ?_
                  refine ent_guardXDt rfl rfl rfl rfl (fun hg113 => ?_) (fun hg113 => ?_)
                  · refine ent_o rfl (ok_move rfl) ?_
                    refine ent_guardXT rfl rfl rfl rfl (decide_eq_true hg113) ?_
                    refine ent_o rfl (ok_gtr rfl rfl) ?_
                    refine ent_guardXT rfl rfl rfl rfl (decide_eq_false hg110) ?_
                    refine ent_o rfl (ok_pickT rfl (decide_eq_true hg113) rfl) ?_
                    refine ent_guardXT rfl rfl rfl rfl (decide_eq_false hg110) ?_
                    refine ent_o rfl (ok_move rfl) ?_
                    refine ent_guardXDt rfl rfl rfl rfl (fun hg117 => ?_) (fun hg117 => ?_)
                    · refine ent_o rfl (ok_fieldAddrEx Try.runUnderlying55 rfl Try.sizeOf3 (by decide) rfl) ?_
                      refine ent_guardXT rfl rfl rfl rfl (decide_eq_true hg117) ?_
                      refine ent_o rfl (ok_loadB (k := 0) Try.isAgg3 rfl rfl rfl) ?_
                      refine ent_guardXT rfl rfl rfl rfl (decide_eq_true hg117) ?_
                      refine ent_o rfl (ok_move rfl) ?_
                      refine ent_guardXT rfl rfl rfl rfl (decide_eq_true hg117) ?_
                      refine ent_o rfl (ok_gtr rfl rfl) ?_
                      refine ent_guardXT rfl rfl rfl rfl (decide_eq_false hg110) ?_
                      refine ent_o rfl (ok_pickT rfl (decide_eq_true hg117) rfl) ?_
                      refine ent_o rfl (ok_pickF rfl (decide_eq_false hg110) rfl) ?_
                      refine ent_nil ?_
                      exact ent_rep ⟨rfl, rfl, rfl, rfl, slot_bool (dq_Q ((or_iff_right (fun h => hg110 h.2)).trans ((and_iff_right ⟨hg113, hg117⟩).trans Iff.rfl))), trivial⟩ rfl
                    · refine ent_guardXF rfl rfl rfl rfl (decide_eq_false hg117) ?_
                      refine ent_guardXF rfl rfl rfl rfl (decide_eq_false hg117) ?_
                      refine ent_guardXF rfl rfl rfl rfl (decide_eq_false hg117) ?_
                      refine ent_guardXT rfl rfl rfl rfl (decide_eq_false hg110) ?_
                      refine ent_o rfl (ok_pickF rfl (decide_eq_false hg117) rfl) ?_
                      refine ent_o rfl (ok_pickF rfl (decide_eq_false hg110) rfl) ?_
                      refine ent_nil ?_
                      exact ent_rep ⟨rfl, rfl, rfl, rfl, slot_bool (dq_F rfl (fun h => h.elim (fun h => hg110 h.2) (fun h => (fun h => hg117 h.2) h.1))), trivial⟩ rfl
                  · refine ent_guardXF rfl rfl rfl rfl (decide_eq_false hg113) ?_
                    refine ent_guardXT rfl rfl rfl rfl (decide_eq_false hg110) ?_
                    refine ent_o rfl (ok_pickF rfl (decide_eq_false hg113) rfl) ?_
                    refine ent_guardXT rfl rfl rfl rfl (decide_eq_false hg110) ?_
                    refine ent_o rfl (ok_move rfl) ?_
                    refine ent_guardXF rfl rfl rfl rfl rfl ?_
                    refine ent_guardXF rfl rfl rfl rfl rfl ?_
                    refine ent_guardXF rfl rfl rfl rfl rfl ?_
                    refine ent_guardXF rfl rfl rfl rfl rfl ?_
                    refine ent_guardXT rfl rfl rfl rfl (decide_eq_false hg110) ?_
                    refine ent_o rfl (ok_pickF rfl rfl rfl) ?_
                    refine ent_o rfl (ok_pickF rfl (decide_eq_false hg110) rfl) ?_
                    refine ent_nil ?_
                    exact ent_rep ⟨rfl, rfl, rfl, rfl, slot_bool (dq_F rfl (fun h => h.elim (fun h => hg110 h.2) (fun h => (fun h => hg113 h.1) h.1))), trivial⟩ rfl
                · refine ent_guardXF rfl rfl rfl rfl (decide_eq_true hg110) ?_
                  refine ent_guardXF rfl rfl rfl rfl (decide_eq_true hg110) ?_
                  refine ent_guardU rfl rfl rfl rfl ?_
                  refine ent_guardU rfl rfl rfl rfl ?_
                  refine ent_guardXF rfl rfl rfl rfl (decide_eq_true hg110) ?_
                  refine ent_guardXF rfl rfl rfl rfl (decide_eq_true hg110) ?_
                  refine ent_guardU rfl rfl rfl rfl ?_
                  refine ent_guardU rfl rfl rfl rfl ?_
                  refine ent_guardU rfl rfl rfl rfl ?_
                  refine ent_guardU rfl rfl rfl rfl ?_
                  refine ent_guardXF rfl rfl rfl rfl (decide_eq_true hg110) ?_
                  refine ent_o rfl (ok_pickT rfl (decide_eq_true hg110) rfl) ?_
                  refine ent_nil ?_
                  exact ent_rep ⟨rfl, rfl, rfl, rfl, slot_bool (dq_T rfl (Or.inl ⟨hg101, hg110⟩)), trivial⟩ rfl
              · refine ent_guardXF rfl rfl rfl rfl (decide_eq_false hg101) ?_
                refine ent_guardXF rfl rfl rfl rfl (decide_eq_false hg101) ?_
                refine ent_guardXF rfl rfl rfl rfl (decide_eq_false hg101) ?_
                refine ent_guardXF rfl rfl rfl rfl (decide_eq_false hg101) ?_
                refine ent_guardXF rfl rfl rfl rfl (decide_eq_false hg101) ?_
                refine ent_guardXF rfl rfl rfl rfl (decide_eq_false hg101) ?_
                refine ent_o rfl (ok_pickF rfl (decide_eq_false hg101) rfl) ?_
                refine ent_o rfl (ok_move rfl) ?_
                refine ent_guardXT rfl rfl rfl rfl rfl ?_
                refine ent_o rfl (ok_move rfl) ?_
                refine ent_guardXT rfl rfl rfl rfl rfl ?_
                refine ent_o rfl (ok_eql rfl rfl) ?_
                refine ent_guardXT rfl rfl rfl rfl rfl ?_
                refine ent_o rfl (ok_move rfl) ?_
                refine ent_guardXDt rfl rfl rfl rfl (fun hg113 => ?_) (fun hg113 => ?_)
                · refine ent_o rfl (ok_move rfl) ?_
                  refine ent_guardXT rfl rfl rfl rfl (decide_eq_true hg113) ?_
                  refine ent_o rfl (ok_gtr rfl rfl) ?_
                  refine ent_guardXT rfl rfl rfl rfl rfl ?_
                  refine ent_o rfl (ok_pickT rfl (decide_eq_true hg113) rfl) ?_
                  refine ent_guardXT rfl rfl rfl rfl rfl ?_
                  refine ent_o rfl (ok_move rfl) ?_
                  refine ent_guardXDt rfl rfl rfl rfl (fun hg117 => ?_) (fun hg117 => ?_)
                  · refine ent_o rfl (ok_fieldAddrEx Try.runUnderlying55 rfl Try.sizeOf3 (by decide) rfl) ?_
                    refine ent_guardXT rfl rfl rfl rfl (decide_eq_true hg117) ?_
                    refine ent_o rfl (ok_loadB (k := 0) Try.isAgg3 rfl rfl rfl) ?_
                    refine ent_guardXT rfl rfl rfl rfl (decide_eq_true hg117) ?_
                    refine ent_o rfl (ok_move rfl) ?_
                    refine ent_guardXT rfl rfl rfl rfl (decide_eq_true hg117) ?_
                    refine ent_o rfl (ok_gtr rfl rfl) ?_
                    refine ent_guardXT rfl rfl rfl rfl rfl ?_
                    refine ent_o rfl (ok_pickT rfl (decide_eq_true hg117) rfl) ?_
                    refine ent_o rfl (ok_pickF rfl rfl rfl) ?_
                    refine ent_nil ?_
                    exact ent_rep ⟨rfl, rfl, rfl, rfl, slot_bool (dq_Q ((or_iff_right (fun h => hg101 h.1)).trans ((and_iff_right ⟨hg113, hg117⟩).trans Iff.rfl))), trivial⟩ rfl
                  · refine ent_guardXF rfl rfl rfl rfl (decide_eq_false hg117) ?_
                    refine ent_guardXF rfl rfl rfl rfl (decide_eq_false hg117) ?_
                    refine ent_guardXF rfl rfl rfl rfl (decide_eq_false hg117) ?_
                    refine ent_guardXT rfl rfl rfl rfl rfl ?_
                    refine ent_o rfl (ok_pickF rfl (decide_eq_false hg117) rfl) ?_
                    refine ent_o rfl (ok_pickF rfl rfl rfl) ?_
                    refine ent_nil ?_
                    exact ent_rep ⟨rfl, rfl, rfl, rfl, slot_bool (dq_F rfl (fun h => h.elim (fun h => hg101 h.1) (fun h => (fun h => hg117 h.2) h.1))), trivial⟩ rfl
                · refine ent_guardXF rfl rfl rfl rfl (decide_eq_false hg113) ?_
                  refine ent_guardXT rfl rfl rfl rfl rfl ?_
                  refine ent_o rfl (ok_pickF rfl (decide_eq_false hg113) rfl) ?_
                  refine ent_guardXT rfl rfl rfl rfl rfl ?_
                  refine ent_o rfl (ok_move rfl) ?_
                  refine ent_guardXF rfl rfl rfl rfl rfl ?_
                  refine ent_guardXF rfl rfl rfl rfl rfl ?_
                  refine ent_guardXF rfl rfl rfl rfl rfl ?_
                  refine ent_guardXF rfl rfl rfl rfl rfl ?_
                  refine ent_guardXT rfl rfl rfl rfl rfl ?_
                  refine ent_o rfl (ok_pickF rfl rfl rfl) ?_
                  refine ent_o rfl (ok_pickF rfl rfl rfl) ?_
                  refine ent_nil ?_
                  exact ent_rep ⟨rfl, rfl, rfl, rfl, slot_bool (dq_F rfl (fun h => h.elim (fun h => hg101 h.1) (fun h => (fun h => hg113 h.1) h.1))), trivial⟩ rfl
            refine ent_k hK26 ?_
            refine ent_condD rfl (fun h123 => ?_) (fun h123 => ?_)
            · have hno : ¬ c.Acc p := fun h => h.2.2.2 s x s0 (by omega) x0 (by omega) (by unfold Cnv.bad; rw [← hw1]; exact h123)
              refine ent_seq fun K27 hK27 => ?_
              refine ent_region ?_
              refine ent_o rfl (ok_assign rfl) ?_
              refine ent_nil ?_
              refine ent_k hK27 ?_
              refine ent_ret ?_
              exact retR1 (.inr rfl) Try.results38 (resr_tmp (res_cv rfl (cv_bool (by first | exact (decide_eq_false hno).symm | exact (decide_eq_true hA).symm))))
            · have hnbd : ¬ c.bad p s x := by unfold Cnv.bad; rw [← hw1]; exact h123
              refine ent_skip ?_
              refine ent_k hK23 ?_
              refine ent_region ?_
              refine ent_o rfl (ok_move rfl) ?_
              refine ent_o rfl (ok_add rfl rfl (by omega) (by omega)) ?_
              refine ent_o rfl (ok_assign rfl) ?_
              refine ent_nil ?_
              refine ent_again (s := (x)) (x + 1) ⟨(by first | rfl | assumption | omega | (simp_all; done) | grind), (by first | rfl | assumption | omega | (simp_all; done) | grind), (hgx2.succ hnbd)⟩ (by first | omega | (dsimp only; omega)) (ent_rep ⟨rfl, rfl, rfl, rfl, trivial⟩ rfl)
          · refine ent_exit ?_
            refine ent_k hK19 ?_
            refine ent_region ?_
            refine ent_o rfl (ok_move rfl) ?_
            refine ent_o rfl (ok_add rfl rfl (by omega) (by omega)) ?_
            refine ent_o rfl (ok_assign rfl) ?_
            refine ent_nil ?_
            refine ent_again (s := (s)) (s + 1) ⟨(by first | rfl | assumption | omega | (simp_all; done) | grind), (by first | rfl | assumption | omega | (simp_all; done) | grind), (hgs.succ hgx2 (by omega))⟩ (by first | omega | (dsimp only; omega)) (ent_rep ⟨rfl, rfl, rfl, trivial⟩ rfl)
        · have hA : c.Acc p := ⟨hR, ⟨hPl, hP0⟩, hpb, fun t x g0 g1 g2 g3 => hgs t x g0 (by omega) g2 g3⟩
          refine ent_exit ?_
          refine ent_k hK15 ?_
          refine ent_seq fun K28 hK28 => ?_
          refine ent_region ?_
          refine ent_o rfl (ok_assign rfl) ?_
          refine ent_nil ?_
          refine ent_k hK28 ?_
          refine ent_ret ?_
          exact retR1 (.inr rfl) Try.results38 (resr_tmp (res_cv rfl (cv_bool (by first | exact (decide_eq_false hno).symm | exact (decide_eq_true hA).symm))))
end Go.Proofs.Ytfjhbdfgbpcchaa
