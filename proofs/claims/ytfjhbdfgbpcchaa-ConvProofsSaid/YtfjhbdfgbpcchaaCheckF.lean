/-
  CheckFree.
-/
import Derived.Test.YtfjhbdfgbpcchaaProg
import Derived.Test.YtfjhbdfgbpcchaaTab
import Derived.Test.YtfjhbdfgbpcchaaCy
import Derived.Test.YtfjhbdfgbpcchaaPlainY
import Derived.Test.YtfjhbdfgbpcchaaFieldA
import Derived.Test.YtfjhbdfgbpcchaaFieldB
import Derived.Test.YtfjhbdfgbpcchaaFieldC
import Derived.Test.YtfjhbdfgbpcchaaFieldE
import Derived.Test.YtfjhbdfgbpcchaaPoly
import Derived.Test.YtfjhbdfgbpcchaaBuild
import Derived.Test.YtfjhbdfgbpcchaaRefC
import Derived.Test.YtfjhbdfgbpcchaaStep
import Derived.Test.YtfjhbdfgbpcchaaRefN
import Derived.Test.YtfjhbdfgbpcchaaNext
import Derived.Test.YtfjhbdfgbpcchaaEncode
import Derived.Test.YtfjhbdfgbpcchaaTerm
import Derived.Test.YtfjhbdfgbpcchaaAdd
import Derived.Test.YtfjhbdfgbpcchaaDigits
import Derived.Test.YtfjhbdfgbpcchaaEdges
import Derived.Test.YtfjhbdfgbpcchaaReach
open Go Go.Cw
namespace Go.Proofs.Ytfjhbdfgbpcchaa
set_option maxRecDepth 100000
set_option linter.unusedVariables false
set_option linter.unusedSimpArgs false
set_option maxHeartbeats 1000000 in
theorem CheckFree_ok (c : Cnv) (p : Cnv.Fp) (hFew : c.Few) (hpl : p.Msg.length ≤ 1000) : Ctr Try.prog 44 [aCnv c, aFp p] (aInt (c.accErr p)) := by
  refine ctr_of Try.call44 Try.func44 rfl rfl ?_
  intro w O
  refine ent_lenC 0 2 rfl rfl (fun hlen0_2 => ?_)
  refine ent_lenC 0 3 rfl rfl (fun hlen0_3 => ?_)
  refine ent_lenC 1 1 rfl rfl (fun hlen1_1 => ?_)
  refine ent_lenC 1 2 rfl rfl (fun hlen1_2 => ?_)
  refine ent_seq fun K1 hK1 => ?_
  refine ent_region ?_
  refine ent_boxS rfl rfl (AllOne.mem ⟨(one_int _), (one_int _), one_sl, one_sl, trivial⟩) (fun b2_1 => ?_)
  refine ent_boxS rfl rfl (AllOne.mem ⟨(one_int _), one_sl, one_sl, trivial⟩) (fun b3_2 => ?_)
  refine ent_o rfl (ok_assign rfl) ?_
  refine ent_nil ?_
  refine ent_k hK1 ?_
  refine ent_seq fun K2 hK2 => ?_
  refine ent_region ?_
  refine ent_o rfl (ok_loadBS (k := 1) ti27 rfl rfl rfl) ?_
  rcases Classical.em (c.Ok) with hOk | hOk
  · refine ent_o rfl (ok_call (build_ok c (by first | rfl | assumption | omega | (simp_all; done) | grind) hOk) rfl) ?_
    refine ent_o rfl (ok_move rfl) ?_
    refine ent_o rfl (ok_extract rfl rfl) ?_
    refine ent_o rfl (ok_extract rfl rfl) ?_
    refine ent_o rfl (ok_assign rfl) ?_
    refine ent_o rfl (ok_assign rfl) ?_
    refine ent_nil ?_
    refine ent_k hK2 ?_
    refine ent_seq fun K3 hK3 => ?_
    refine ent_seq fun K4 hK4 => ?_
    refine ent_region ?_
    refine ent_o rfl (ok_move rfl) ?_
    refine ent_o rfl (ok_neq rfl rfl) ?_
    refine ent_nil ?_
    refine ent_k hK4 ?_
    refine ent_condFP rfl (by decide) ?_
    refine ent_skip ?_
    refine ent_k hK3 ?_
    refine ent_seq fun K5 hK5 => ?_
    refine ent_seq fun K6 hK6 => ?_
    refine ent_cut (⟨[(3, aEx (.pointer (some ⟨b3_2, 0, none⟩))), (5, aMach c), (42, aBool (decide (((¬ (c.Rch p)) ∨ ((↑p.Pot.length : Int) ≠ c.states)) ∨ ((ix 0 p.Pot 0) ≠ 0))))], [oBox b3_2 55 [aInt p.D, aSl 1 false aInts p.Msg, aSl 1 false aInt p.Pot], oBox b2_1 27 [aInt c.F.P, aInt c.F.M, aSl 1 false aInt c.F.mod, aSl 1 false aRows c.Gen]]⟩) ?_ ?_
    · have h00 := Cnv.err_zero.2 hOk
      have hF := hOk.fld
      have hS := hF.1
      have hq := hS.bd
      have hq2 := hq.2.2.2.2.2.1
      have hik : c.k = (c.Gen.length : Int) := rfl
      have hen : c.n = ((ix [] c.Gen 0).length : Int) := rfl
      have hkn := hOk.kn
      have hnl := hOk.len
      have hi1 := Cnv.ins_pos (c := c) hq2
      have hsi := Cnv.states_ins hq2 hOk.small
      have hil := Cnv.ins_le hq2 hOk.small
      have hst := Cnv.states_le hq2 hOk.small
      have hf1 := hFew.1
      refine ent_draw 21 mixed (by kernel_rfl) (by kernel_rfl) (by kernel_rfl) ?_
      refine dw_o rfl (ok_move rfl) ?_
      refine dw_o rfl (ok_loadBS (k := 0) ti55 rfl rfl rfl) ?_
      refine dw_o rfl (ok_call (reaches_ok c p (by first | rfl | assumption | omega | (simp_all; done) | grind) hOk (by first | rfl | assumption | omega | (simp_all; done) | grind)) rfl) ?_
      refine dw_o rfl (ok_notD rfl) ?_
      refine dw_o rfl (ok_move rfl) ?_
      refine dw_guardDf rfl rfl rfl rfl (fun hg26 => ?_) (fun hg26 => ?_)
      · refine dw_o rfl (ok_fieldAddrEx Try.runUnderlying55 rfl Try.sizeOf22 (by decide) rfl) ?_
        refine dw_guardT rfl rfl rfl rfl (decide_eq_false hg26) ?_
        refine dw_o rfl (ok_loadB (k := 0) Try.isAgg22 rfl rfl rfl) ?_
        refine dw_guardT rfl rfl rfl rfl (decide_eq_false hg26) ?_
        refine dw_o rfl (ok_len rfl Try.runUnderlying22 rfl) ?_
        refine dw_guardT rfl rfl rfl rfl (decide_eq_false hg26) ?_
        refine dw_o rfl (ok_move rfl) ?_
        refine dw_guardT rfl rfl rfl rfl (decide_eq_false hg26) ?_
        refine dw_o rfl (ok_nilCheck rfl) ?_
        refine dw_guardT rfl rfl rfl rfl (decide_eq_false hg26) ?_
        refine dw_o rfl (ok_fieldAddr1 Try.runUnderlying84 rfl Try.sizeOf3 rfl rfl) ?_
        refine dw_guardT rfl rfl rfl rfl (decide_eq_false hg26) ?_
        refine dw_o rfl (ok_load ti3 rfl) ?_
        refine dw_guardT rfl rfl rfl rfl (decide_eq_false hg26) ?_
        refine dw_o rfl (ok_neq rfl rfl) ?_
        refine dw_o rfl (ok_pickF rfl (decide_eq_false hg26) rfl) ?_
        refine dw_o rfl (ok_move rfl) ?_
        refine dw_guardDf rfl rfl rfl rfl (fun hg36 => ?_) (fun hg36 => ?_)
        · refine dw_o rfl (ok_fieldAddrEx Try.runUnderlying55 rfl Try.sizeOf22 (by decide) rfl) ?_
          refine dw_guardT rfl rfl rfl rfl (decide_eq_false hg36) ?_
          refine dw_o rfl (ok_loadB (k := 0) Try.isAgg22 rfl rfl rfl) ?_
          refine dw_guardT rfl rfl rfl rfl (decide_eq_false hg36) ?_
          refine dw_o rfl (ok_index 0 sl22 rfl rfl (by omega) (by omega)) ?_
          refine dw_guardT rfl rfl rfl rfl (decide_eq_false hg36) ?_
          refine dw_o rfl (ok_load ti3 rfl) ?_
          refine dw_guardT rfl rfl rfl rfl (decide_eq_false hg36) ?_
          refine dw_o rfl (ok_neq rfl rfl) ?_
          refine dw_o rfl (ok_pickF rfl (decide_eq_false hg36) rfl) ?_
          refine dw_nil ?_
          refine ent_nil ?_
          exact ent_rep ⟨rfl, rfl, slot_bool (dq_Q ((or_iff_right (fun h => h.elim hg26 hg36)).trans Iff.rfl)), trivial⟩ rfl
        · refine dw_guardF rfl rfl rfl rfl (decide_eq_true hg36) ?_
          refine dw_guardF rfl rfl rfl rfl (decide_eq_true hg36) ?_
          refine dw_guardF rfl rfl rfl rfl (decide_eq_true hg36) ?_
          refine dw_guardF rfl rfl rfl rfl (decide_eq_true hg36) ?_
          refine dw_o rfl (ok_pickT rfl (decide_eq_true hg36) rfl) ?_
          refine dw_nil ?_
          refine ent_nil ?_
          exact ent_rep ⟨rfl, rfl, slot_bool (dq_T rfl (Or.inl (Or.inr hg36))), trivial⟩ rfl
      · refine dw_guardF rfl rfl rfl rfl (decide_eq_true hg26) ?_
        refine dw_guardF rfl rfl rfl rfl (decide_eq_true hg26) ?_
        refine dw_guardF rfl rfl rfl rfl (decide_eq_true hg26) ?_
        refine dw_guardF rfl rfl rfl rfl (decide_eq_true hg26) ?_
        refine dw_guardF rfl rfl rfl rfl (decide_eq_true hg26) ?_
        refine dw_guardF rfl rfl rfl rfl (decide_eq_true hg26) ?_
        refine dw_guardF rfl rfl rfl rfl (decide_eq_true hg26) ?_
        refine dw_o rfl (ok_pickT rfl (decide_eq_true hg26) rfl) ?_
        refine dw_o rfl (ok_move rfl) ?_
        refine dw_guardF rfl rfl rfl rfl rfl ?_
        refine dw_guardF rfl rfl rfl rfl rfl ?_
        refine dw_guardF rfl rfl rfl rfl rfl ?_
        refine dw_guardF rfl rfl rfl rfl rfl ?_
        refine dw_guardF rfl rfl rfl rfl rfl ?_
        refine dw_o rfl (ok_pickT rfl rfl rfl) ?_
        refine dw_nil ?_
        refine ent_nil ?_
        exact ent_rep ⟨rfl, rfl, slot_bool (dq_T rfl (Or.inl (Or.inl hg26))), trivial⟩ rfl
    refine ent_k hK6 ?_
    refine ent_condD rfl (fun h42 => ?_) (fun h42 => ?_)
    · have h00 := Cnv.err_zero.2 hOk
      have hno : ¬ c.Acc p := fun h => by rcases h42 with (g | g) | g; exact g h.1; exact g h.2.1.1; exact g h.2.1.2
      refine ent_seq fun K7 hK7 => ?_
      refine ent_region ?_
      refine ent_o rfl (ok_assign rfl) ?_
      refine ent_nil ?_
      refine ent_k hK7 ?_
      refine ent_ret ?_
      exact retR1 (.inr rfl) Try.results44 (resr_tmp (res_cv rfl (cv_int (by first | exact (Cnv.accErr_no h00 hno).symm | exact (Cnv.accErr_ok h00 hA).symm | exact (Cnv.accErr_err h20).symm))))
    · have h00 := Cnv.err_zero.2 hOk
      have hF := hOk.fld
      have hS := hF.1
      have hq := hS.bd
      have hq2 := hq.2.2.2.2.2.1
      have hik : c.k = (c.Gen.length : Int) := rfl
      have hen : c.n = ((ix [] c.Gen 0).length : Int) := rfl
      have hkn := hOk.kn
      have hnl := hOk.len
      have hi1 := Cnv.ins_pos (c := c) hq2
      have hsi := Cnv.states_ins hq2 hOk.small
      have hil := Cnv.ins_le hq2 hOk.small
      have hst := Cnv.states_le hq2 hOk.small
      have hf1 := hFew.1
      have hR : c.Rch p := by by_cases g : c.Rch p; exact g; exact absurd (.inl (.inl g)) h42
      have hPl : (p.Pot.length : Int) = c.states := by by_cases g : (p.Pot.length : Int) = c.states; exact g; exact absurd (.inl (.inr g)) h42
      have hP0 : ix 0 p.Pot 0 = 0 := by by_cases g : ix 0 p.Pot 0 = 0; exact g; exact absurd (.inr g) h42
      refine ent_skip ?_
      refine ent_k hK5 ?_
      refine ent_seq fun K8 hK8 => ?_
      refine ent_seq fun K9 hK9 => ?_
      refine ent_region ?_
      refine ent_o rfl (ok_fieldAddrEx Try.runUnderlying55 rfl Try.sizeOf22 (by decide) rfl) ?_
      refine ent_o rfl (ok_loadB (k := 0) Try.isAgg22 rfl rfl rfl) ?_
      refine ent_o rfl (ok_len rfl Try.runUnderlying22 rfl) ?_
      refine ent_o rfl (ok_move rfl) ?_
      refine ent_nil ?_
      refine ent_k hK9 ?_
      refine ent_block ?_
      refine ent_loop (fun (i : Int) => (⟨[(3, aEx (.pointer (some ⟨b3_2, 0, none⟩))), (5, aMach c), (44, aSl 1 false aInt p.Pot), (45, aInt (↑p.Pot.length : Int)), (46, aInt i)], [oBox b3_2 55 [aInt p.D, aSl 1 false aInts p.Msg, aSl 1 false aInt p.Pot], oBox b2_1 27 [aInt c.F.P, aInt c.F.M, aSl 1 false aInt c.F.mod, aSl 1 false aRows c.Gen]]⟩ : St)) (fun (i : Int) => (0 ≤ i) ∧ (i ≤ p.Pot.length) ∧ (Cnv.potTo p i)) (fun (i : Int) => (p.Pot.length - i).toNat) 0 ⟨(by first | rfl | assumption | omega | (simp_all; done) | grind), (by first | rfl | assumption | omega | (simp_all; done) | grind), (Cnv.potTo.zero p)⟩ (ent_rep ⟨rfl, rfl, rfl, rfl, slot_av (av_int (show 0 = (0 : Int) by first | rfl | assumption | omega | (simp_all; done) | grind)), trivial⟩ rfl) ?_
      rintro i ⟨h0, h1, hpt⟩
      show Ent _ (⟨[(3, aEx (.pointer (some ⟨b3_2, 0, none⟩))), (5, aMach c), (44, aSl 1 false aInt p.Pot), (45, aInt (↑p.Pot.length : Int)), (46, aInt i)], [oBox b3_2 55 [aInt p.D, aSl 1 false aInts p.Msg, aSl 1 false aInt p.Pot], oBox b2_1 27 [aInt c.F.P, aInt c.F.M, aSl 1 false aInt c.F.mod, aSl 1 false aRows c.Gen]]⟩ : St) _
      refine ent_seq fun K10 hK10 => ?_
      refine ent_region ?_
      refine ent_o rfl (ok_lss rfl rfl) ?_
      refine ent_nil ?_
      refine ent_k hK10 ?_
      refine ent_seq fun K11 hK11 => ?_
      refine ent_condD rfl (fun h47 => ?_) (fun h47 => ?_)
      · refine ent_skip ?_
        refine ent_k hK11 ?_
        refine ent_seq fun K12 hK12 => ?_
        refine ent_block ?_
        refine ent_seq fun K13 hK13 => ?_
        refine ent_region ?_
        refine ent_o rfl (ok_index 0 sl22 rfl rfl (by omega) (by omega)) ?_
        refine ent_o rfl (ok_load ti3 rfl) ?_
        refine ent_o rfl (ok_assign rfl) ?_
        refine ent_nil ?_
        refine ent_k hK13 ?_
        refine ent_seq fun K14 hK14 => ?_
        refine ent_cut (⟨[(3, aEx (.pointer (some ⟨b3_2, 0, none⟩))), (5, aMach c), (44, aSl 1 false aInt p.Pot), (45, aInt (↑p.Pot.length : Int)), (46, aInt i), (55, aBool (decide (((ix 0 p.Pot i) < 0) ∨ (2147483648 < (ix 0 p.Pot i)))))], [oBox b3_2 55 [aInt p.D, aSl 1 false aInts p.Msg, aSl 1 false aInt p.Pot], oBox b2_1 27 [aInt c.F.P, aInt c.F.M, aSl 1 false aInt c.F.mod, aSl 1 false aRows c.Gen]]⟩) ?_ ?_
        · refine ent_region ?_
          refine ent_o rfl (ok_move rfl) ?_
          refine ent_o rfl (ok_lss rfl rfl) ?_
          refine ent_o rfl (ok_move rfl) ?_
          refine ent_guardXDf rfl rfl rfl rfl (fun hg52 => ?_) (fun hg52 => ?_)
          · refine ent_o rfl (ok_move rfl) ?_
            refine ent_guardXT rfl rfl rfl rfl (decide_eq_false hg52) ?_
            refine ent_o rfl (ok_gtr rfl rfl) ?_
            refine ent_o rfl (ok_pickF rfl (decide_eq_false hg52) rfl) ?_
            refine ent_nil ?_
            exact ent_rep ⟨rfl, rfl, rfl, rfl, rfl, slot_bool (dq_Q ((or_iff_right hg52).trans Iff.rfl)), trivial⟩ rfl
          · refine ent_guardXF rfl rfl rfl rfl (decide_eq_true hg52) ?_
            refine ent_o rfl (ok_pickT rfl (decide_eq_true hg52) rfl) ?_
            refine ent_nil ?_
            exact ent_rep ⟨rfl, rfl, rfl, rfl, rfl, slot_bool (dq_T rfl (Or.inl hg52)), trivial⟩ rfl
        refine ent_k hK14 ?_
        refine ent_condD rfl (fun h55 => ?_) (fun h55 => ?_)
        · have hno : ¬ c.Acc p := fun h => h.2.2.1 (Cnv.potBad_at h0 h47 h55)
          refine ent_seq fun K15 hK15 => ?_
          refine ent_region ?_
          refine ent_o rfl (ok_assign rfl) ?_
          refine ent_nil ?_
          refine ent_k hK15 ?_
          refine ent_ret ?_
          exact retR1 (.inr rfl) Try.results44 (resr_tmp (res_cv rfl (cv_int (by first | exact (Cnv.accErr_no h00 hno).symm | exact (Cnv.accErr_ok h00 hA).symm | exact (Cnv.accErr_err h20).symm))))
        · refine ent_skip ?_
          refine ent_k hK12 ?_
          refine ent_region ?_
          refine ent_o rfl (ok_add rfl rfl (by omega) (by omega)) ?_
          refine ent_o rfl (ok_move rfl) ?_
          refine ent_nil ?_
          refine ent_again (s := (i)) (i + 1) ⟨(by first | rfl | assumption | omega | (simp_all; done) | grind), (by first | rfl | assumption | omega | (simp_all; done) | grind), (hpt.succ h0 h47 h55)⟩ (by first | omega | (dsimp only; omega)) (ent_rep ⟨rfl, rfl, rfl, rfl, rfl, trivial⟩ rfl)
      · have hpb := hpt.all (show p.Pot.length ≤ i by omega)
        have hee : (c.eNxs.length : Int) = c.states * c.ins := by unfold Cnv.eNxs; rw [length_mapR]; have := Int.mul_nonneg (show 0 ≤ c.states by omega) (show 0 ≤ c.ins by omega); omega
        have hew : (c.eWts.length : Int) = c.states * c.ins := by unfold Cnv.eWts; rw [length_mapR]; have := Int.mul_nonneg (show 0 ≤ c.states by omega) (show 0 ≤ c.ins by omega); omega
        refine ent_exit ?_
        refine ent_k hK8 ?_
        refine ent_seq fun K16 hK16 => ?_
        refine ent_region ?_
        refine ent_o rfl (ok_move rfl) ?_
        refine ent_o rfl (ok_call (edges_ok c (by first | rfl | assumption | omega | (simp_all; done) | grind) hOk) rfl) ?_
        refine ent_alloc (z := .agg #[.int .i64 0, .slice none 0 0, .slice none 0 0]) [aInt 0, aEx (.slice none 0 0), aEx (.slice none 0 0)] rfl zv96 rfl zc96 (fun b9_3 => ?_)
        refine ent_storeBS (k := 0) Try.sizeOf96 rfl rfl rfl (AllOne.mem ⟨(one_int _), one_sl, one_sl, trivial⟩) rfl rfl ?_
        refine ent_nil ?_
        refine ent_k hK16 ?_
        refine ent_seq fun K17 hK17 => ?_
        refine ent_seq fun K18 hK18 => ?_
        refine ent_region ?_
        refine ent_o rfl (ok_fieldAddrEx Try.runUnderlying96 rfl Try.sizeOf22 (by decide) rfl) ?_
        refine ent_o rfl (ok_loadB (k := 0) Try.isAgg22 rfl rfl rfl) ?_
        refine ent_o rfl (ok_len rfl Try.runUnderlying22 rfl) ?_
        refine ent_o rfl (ok_move rfl) ?_
        refine ent_nil ?_
        refine ent_k hK18 ?_
        refine ent_block ?_
        refine ent_loop (fun (a : Int) => (⟨[(3, aEx (.pointer (some ⟨b3_2, 0, none⟩))), (9, aEx (.pointer (some ⟨b9_3, 0, none⟩))), (60, aSl 1 false aInt c.eNxs), (61, aInt (↑c.eNxs.length : Int)), (62, aInt a)], [oBox b9_3 96 [aInt c.ins, aSl 1 false aInt c.eNxs, aSl 1 false aInt c.eWts], oBox b3_2 55 [aInt p.D, aSl 1 false aInts p.Msg, aSl 1 false aInt p.Pot], oBox b2_1 27 [aInt c.F.P, aInt c.F.M, aSl 1 false aInt c.F.mod, aSl 1 false aRows c.Gen]]⟩ : St)) (fun (a : Int) => (0 ≤ a) ∧ (a ≤ c.states * c.ins) ∧ (c.GoodTo p a)) (fun (a : Int) => (c.states * c.ins - a).toNat) 0 ⟨(by first | rfl | assumption | omega | (simp_all; done) | grind), (by first | rfl | assumption | omega | (simp_all; done) | grind), (Cnv.GoodTo.zero hi1 p)⟩ (ent_rep ⟨rfl, rfl, rfl, rfl, slot_av (av_int (show 0 = (0 : Int) by first | rfl | assumption | omega | (simp_all; done) | grind)), trivial⟩ rfl) ?_
        rintro a ⟨a0, a1, hgt⟩
        show Ent _ (⟨[(3, aEx (.pointer (some ⟨b3_2, 0, none⟩))), (9, aEx (.pointer (some ⟨b9_3, 0, none⟩))), (60, aSl 1 false aInt c.eNxs), (61, aInt (↑c.eNxs.length : Int)), (62, aInt a)], [oBox b9_3 96 [aInt c.ins, aSl 1 false aInt c.eNxs, aSl 1 false aInt c.eWts], oBox b3_2 55 [aInt p.D, aSl 1 false aInts p.Msg, aSl 1 false aInt p.Pot], oBox b2_1 27 [aInt c.F.P, aInt c.F.M, aSl 1 false aInt c.F.mod, aSl 1 false aRows c.Gen]]⟩ : St) _
        refine ent_seq fun K19 hK19 => ?_
        refine ent_region ?_
        refine ent_o rfl (ok_lss rfl rfl) ?_
        refine ent_nil ?_
        refine ent_k hK19 ?_
        refine ent_seq fun K20 hK20 => ?_
        refine ent_condD rfl (fun h63 => ?_) (fun h63 => ?_)
        · have hxn : ix 0 c.eNxs a = c.eNx a := ix_mapR 0 _ a0 (by omega)
          have hxw : ix 0 c.eWts a = c.eWt a := ix_mapR 0 _ a0 (by omega)
          have hnb := Cnv.nxt_states (s := a / c.ins) hq2 (Cnv.inp_good (c := c) hq2 (a % c.ins))
          change 0 ≤ c.eNx a ∧ c.eNx a < _ at hnb
          have hwb := Cnv.eWt_le (c := c) (s := a / c.ins) (inn := c.inp (a % c.ins))
          change 0 ≤ c.eWt a ∧ c.eWt a ≤ _ at hwb
          have hpo := Cnv.pot_ok hpb (c.eNx a)
          have hpo2 := Cnv.pot_ok hpb (a / c.ins)
          have hba := Cnv.bad_at (p := p) hi1 a0
          have hdl : 0 ≤ a / c.ins := Int.ediv_nonneg a0 (by omega)
          have hds : a / c.ins < c.states := Int.ediv_lt_of_lt_mul (by omega) (by omega)
          rw [← hxn] at hpo hnb
          rw [← hxw] at hwb
          refine ent_skip ?_
          refine ent_k hK20 ?_
          refine ent_seq fun K21 hK21 => ?_
          refine ent_block ?_
          refine ent_seq fun K22 hK22 => ?_
          refine ent_region ?_
          refine ent_o rfl (ok_move rfl) ?_
          refine ent_o rfl (ok_index 0 sl22 rfl rfl (by omega) (by omega)) ?_
          refine ent_o rfl (ok_load ti3 rfl) ?_
          refine ent_o rfl (ok_assign rfl) ?_
          refine ent_o rfl (ok_assign rfl) ?_
          refine ent_nil ?_
          refine ent_k hK22 ?_
          refine ent_seq fun K23 hK23 => ?_
          refine ent_draw 17 mixed (by kernel_rfl) (by kernel_rfl) (by kernel_rfl) ?_
          refine dw_o rfl (ok_move rfl) ?_
          refine dw_o rfl (ok_fieldAddrEx Try.runUnderlying96 rfl Try.sizeOf3 (by decide) rfl) ?_
          refine dw_o rfl (ok_loadB (k := 0) Try.isAgg3 rfl rfl rfl) ?_
          refine dw_o rfl (ok_quo rfl rfl (by omega) (by omega) (by omega)) ?_
          refine dw_o rfl (ok_fieldAddrEx Try.runUnderlying96 rfl Try.sizeOf22 (by decide) rfl) ?_
          refine dw_o rfl (ok_loadB (k := 0) Try.isAgg22 rfl rfl rfl) ?_
          refine dw_o rfl (ok_move rfl) ?_
          refine dw_o rfl (ok_index 0 sl22 rfl rfl (by omega) (by omega)) ?_
          refine dw_o rfl (ok_load ti3 rfl) ?_
          refine dw_o rfl (ok_fieldAddrEx Try.runUnderlying55 rfl Try.sizeOf22 (by decide) rfl) ?_
          refine dw_o rfl (ok_loadB (k := 1) Try.isAgg22 rfl rfl rfl) ?_
          refine dw_o rfl (ok_move rfl) ?_
          refine dw_o rfl (ok_index 0 sl22 rfl rfl (by omega) (by omega)) ?_
          refine dw_o rfl (ok_load ti3 rfl) ?_
          refine dw_o rfl (ok_add rfl rfl (by omega) (by omega)) ?_
          refine dw_o rfl (ok_assign rfl) ?_
          refine dw_o rfl (ok_assign rfl) ?_
          refine dw_nil ?_
          refine ent_nil ?_
          refine ent_k hK23 ?_
          refine ent_seq fun K24 hK24 => ?_
          refine ent_cut (⟨[(3, aEx (.pointer (some ⟨b3_2, 0, none⟩))), (9, aEx (.pointer (some ⟨b9_3, 0, none⟩))), (60, aSl 1 false aInt c.eNxs), (61, aInt (↑c.eNxs.length : Int)), (62, aInt a), (106, aBool (decide (((0 < (a / c.ins)) ∧ (((ix 0 c.eWts a) + (ix 0 p.Pot (ix 0 c.eNxs a))) < (ix 0 p.Pot (a / c.ins)))) ∨ ((((a / c.ins) = 0) ∧ (0 < a)) ∧ (((ix 0 c.eWts a) + (ix 0 p.Pot (ix 0 c.eNxs a))) < p.D)))))], [oBox b9_3 96 [aInt c.ins, aSl 1 false aInt c.eNxs, aSl 1 false aInt c.eWts], oBox b3_2 55 [aInt p.D, aSl 1 false aInts p.Msg, aSl 1 false aInt p.Pot], oBox b2_1 27 [aInt c.F.P, aInt c.F.M, aSl 1 false aInt c.F.mod, aSl 1 false aRows c.Gen]]⟩) ?_ ?_
          · refine ent_region ?_
            refine ent_o rfl (ok_move rfl) ?_
            refine ent_o rfl (ok_gtr rfl rfl) ?_
            refine ent_o rfl (ok_move rfl) ?_
            refine ent_guardXDt rfl rfl rfl rfl (fun hg84 => ?_) (fun hg84 => ?_)
            · refine ent_o rfl (ok_fieldAddrEx Try.runUnderlying55 rfl Try.sizeOf22 (by decide) rfl) ?_
              refine ent_guardXT rfl rfl rfl rfl (decide_eq_true hg84) ?_
              refine ent_o rfl (ok_loadB (k := 1) Try.isAgg22 rfl rfl rfl) ?_
              refine ent_guardXT rfl rfl rfl rfl (decide_eq_true hg84) ?_
              refine ent_o rfl (ok_move rfl) ?_
              refine ent_guardXT rfl rfl rfl rfl (decide_eq_true hg84) ?_
              refine ent_o rfl (ok_index 0 sl22 rfl rfl (by omega) (by omega)) ?_
              refine ent_guardXT rfl rfl rfl rfl (decide_eq_true hg84) ?_
              refine ent_o rfl (ok_load ti3 rfl) ?_
              refine ent_guardXT rfl rfl rfl rfl (decide_eq_true hg84) ?_
              refine ent_o rfl (ok_move rfl) ?_
              refine ent_guardXT rfl rfl rfl rfl (decide_eq_true hg84) ?_
              refine ent_o rfl (ok_gtr rfl rfl) ?_
              refine ent_o rfl (ok_pickT rfl (decide_eq_true hg84) rfl) ?_
              refine ent_o rfl (ok_move rfl) ?_
              refine ent_guardXDf rfl rfl rfl rfl (fun hg93 => ?_) (fun hg93 => ?_)
              · refine ent_o rfl (ok_move rfl) ?_
                refine ent_guardXT rfl rfl rfl rfl (decide_eq_false hg93) ?_
                refine ent_o rfl (ok_eql rfl rfl) ?_
                refine ent_guardXT rfl rfl rfl rfl (decide_eq_false hg93) ?_
                refine ent_o rfl (ok_move rfl) ?_
                refine ent_guardXDt rfl rfl rfl rfl (fun hg96 => ?_) (fun hg96 => ?_)
                · refine ent_o rfl (ok_move rfl) ?_
                  refine ent_guardXT rfl rfl rfl rfl (decide_eq_true hg96) ?_
                  refine ent_o rfl (ok_gtr rfl rfl) ?_
                  refine ent_guardXT rfl rfl rfl rfl (decide_eq_false hg93) ?_
                  refine ent_o rfl (ok_pickT rfl (decide_eq_true hg96) rfl) ?_
                  refine ent_guardXT rfl rfl rfl rfl (decide_eq_false hg93) ?_
                  refine ent_o rfl (ok_move rfl) ?_
                  refine ent_guardXDt rfl rfl rfl rfl (fun hg100 => ?_) (fun hg100 => ?_)
                  · refine ent_o rfl (ok_fieldAddrEx Try.runUnderlying55 rfl Try.sizeOf3 (by decide) rfl) ?_
                    refine ent_guardXT rfl rfl rfl rfl (decide_eq_true hg100) ?_
                    refine ent_o rfl (ok_loadB (k := 1) Try.isAgg3 rfl rfl rfl) ?_
                    refine ent_guardXT rfl rfl rfl rfl (decide_eq_true hg100) ?_
                    refine ent_o rfl (ok_move rfl) ?_
                    refine ent_guardXT rfl rfl rfl rfl (decide_eq_true hg100) ?_
                    refine ent_o rfl (ok_gtr rfl rfl) ?_
                    refine ent_guardXT rfl rfl rfl rfl (decide_eq_false hg93) ?_
                    refine ent_o rfl (ok_pickT rfl (decide_eq_true hg100) rfl) ?_
                    refine ent_o rfl (ok_pickF rfl (decide_eq_false hg93) rfl) ?_
                    refine ent_nil ?_
                    exact ent_rep ⟨rfl, rfl, rfl, rfl, rfl, slot_bool (dq_Q ((or_iff_right (fun h => hg93 h.2)).trans ((and_iff_right ⟨hg96, hg100⟩).trans Iff.rfl))), trivial⟩ rfl
                  · refine ent_guardXF rfl rfl rfl rfl (decide_eq_false hg100) ?_
                    refine ent_guardXF rfl rfl rfl rfl (decide_eq_false hg100) ?_
                    refine ent_guardXF rfl rfl rfl rfl (decide_eq_false hg100) ?_
                    refine ent_guardXT rfl rfl rfl rfl (decide_eq_false hg93) ?_
                    refine ent_o rfl (ok_pickF rfl (decide_eq_false hg100) rfl) ?_
                    refine ent_o rfl (ok_pickF rfl (decide_eq_false hg93) rfl) ?_
                    refine ent_nil ?_
                    exact ent_rep ⟨rfl, rfl, rfl, rfl, rfl, slot_bool (dq_F rfl (fun h => h.elim (fun h => hg93 h.2) (fun h => (fun h => hg100 h.2) h.1))), trivial⟩ rfl
                · refine ent_guardXF rfl rfl rfl rfl (decide_eq_false hg96) ?_
                  refine ent_guardXT rfl rfl rfl rfl (decide_eq_false hg93) ?_
                  refine ent_o rfl (ok_pickF rfl (decide_eq_false hg96) rfl) ?_
                  refine ent_guardXT rfl rfl rfl rfl (decide_eq_false hg93) ?_
                  refine ent_o rfl (ok_move rfl) ?_
                  refine ent_guardXF rfl rfl rfl rfl rfl ?_
                  refine ent_guardXF rfl rfl rfl rfl rfl ?_
                  refine ent_guardXF rfl rfl rfl rfl rfl ?_
                  refine ent_guardXF rfl rfl rfl rfl rfl ?_
                  refine ent_guardXT rfl rfl rfl rfl (decide_eq_false hg93) ?_
                  refine ent_o rfl (ok_pickF rfl rfl rfl) ?_
                  refine ent_o rfl (ok_pickF rfl (decide_eq_false hg93) rfl) ?_
                  refine ent_nil ?_
                  exact ent_rep ⟨rfl, rfl, rfl, rfl, rfl, slot_bool (dq_F rfl (fun h => h.elim (fun h => hg93 h.2) (fun h => (fun h => hg96 h.1) h.1))), trivial⟩ rfl
              · refine ent_guardXF rfl rfl rfl rfl (decide_eq_true hg93) ?_
                refine ent_guardXF rfl rfl rfl rfl (decide_eq_true hg93) ?_
                refine ent_guardU rfl rfl rfl rfl ?_
                refine ent_guardU rfl rfl rfl rfl ?_
                refine ent_guardXF rfl rfl rfl rfl (decide_eq_true hg93) ?_
                refine ent_guardXF rfl rfl rfl rfl (decide_eq_true hg93) ?_
                refine ent_guardU rfl rfl rfl rfl ?_
                refine ent_guardU rfl rfl rfl rfl ?_
                refine ent_guardU rfl rfl rfl rfl ?_
                refine ent_guardU rfl rfl rfl rfl ?_
                refine ent_guardXF rfl rfl rfl rfl (decide_eq_true hg93) ?_
                refine ent_o rfl (ok_pickT rfl (decide_eq_true hg93) rfl) ?_
                refine ent_nil ?_
                exact ent_rep ⟨rfl, rfl, rfl, rfl, rfl, slot_bool (dq_T rfl (Or.inl ⟨hg84, hg93⟩)), trivial⟩ rfl
            · refine ent_guardXF rfl rfl rfl rfl (decide_eq_false hg84) ?_
              refine ent_guardXF rfl rfl rfl rfl (decide_eq_false hg84) ?_
              refine ent_guardXF rfl rfl rfl rfl (decide_eq_false hg84) ?_
              refine ent_guardXF rfl rfl rfl rfl (decide_eq_false hg84) ?_
              refine ent_guardXF rfl rfl rfl rfl (decide_eq_false hg84) ?_
              refine ent_guardXF rfl rfl rfl rfl (decide_eq_false hg84) ?_
              refine ent_o rfl (ok_pickF rfl (decide_eq_false hg84) rfl) ?_
              refine ent_o rfl (ok_move rfl) ?_
              refine ent_guardXT rfl rfl rfl rfl rfl ?_
              refine ent_o rfl (ok_move rfl) ?_
              refine ent_guardXT rfl rfl rfl rfl rfl ?_
              refine ent_o rfl (ok_eql rfl rfl) ?_
              refine ent_guardXT rfl rfl rfl rfl rfl ?_
              refine ent_o rfl (ok_move rfl) ?_
              refine ent_guardXDt rfl rfl rfl rfl (fun hg96 => ?_) (fun hg96 => ?_)
              · refine ent_o rfl (ok_move rfl) ?_
                refine ent_guardXT rfl rfl rfl rfl (decide_eq_true hg96) ?_
                refine ent_o rfl (ok_gtr rfl rfl) ?_
                refine ent_guardXT rfl rfl rfl rfl rfl ?_
                refine ent_o rfl (ok_pickT rfl (decide_eq_true hg96) rfl) ?_
                refine ent_guardXT rfl rfl rfl rfl rfl ?_
                refine ent_o rfl (ok_move rfl) ?_
                refine ent_guardXDt rfl rfl rfl rfl (fun hg100 => ?_) (fun hg100 => ?_)
                · refine ent_o rfl (ok_fieldAddrEx Try.runUnderlying55 rfl Try.sizeOf3 (by decide) rfl) ?_
                  refine ent_guardXT rfl rfl rfl rfl (decide_eq_true hg100) ?_
                  refine ent_o rfl (ok_loadB (k := 1) Try.isAgg3 rfl rfl rfl) ?_
                  refine ent_guardXT rfl rfl rfl rfl (decide_eq_true hg100) ?_
                  refine ent_o rfl (ok_move rfl) ?_
                  refine ent_guardXT rfl rfl rfl rfl (decide_eq_true hg100) ?_
                  refine ent_o rfl (ok_gtr rfl rfl) ?_
                  refine ent_guardXT rfl rfl rfl rfl rfl ?_
                  refine ent_o rfl (ok_pickT rfl (decide_eq_true hg100) rfl) ?_
                  refine ent_o rfl (ok_pickF rfl rfl rfl) ?_
                  refine ent_nil ?_
                  exact ent_rep ⟨rfl, rfl, rfl, rfl, rfl, slot_bool (dq_Q ((or_iff_right (fun h => hg84 h.1)).trans ((and_iff_right ⟨hg96, hg100⟩).trans Iff.rfl))), trivial⟩ rfl
                · refine ent_guardXF rfl rfl rfl rfl (decide_eq_false hg100) ?_
                  refine ent_guardXF rfl rfl rfl rfl (decide_eq_false hg100) ?_
                  refine ent_guardXF rfl rfl rfl rfl (decide_eq_false hg100) ?_
                  refine ent_guardXT rfl rfl rfl rfl rfl ?_
                  refine ent_o rfl (ok_pickF rfl (decide_eq_false hg100) rfl) ?_
                  refine ent_o rfl (ok_pickF rfl rfl rfl) ?_
                  refine ent_nil ?_
                  exact ent_rep ⟨rfl, rfl, rfl, rfl, rfl, slot_bool (dq_F rfl (fun h => h.elim (fun h => hg84 h.1) (fun h => (fun h => hg100 h.2) h.1))), trivial⟩ rfl
              · refine ent_guardXF rfl rfl rfl rfl (decide_eq_false hg96) ?_
                refine ent_guardXT rfl rfl rfl rfl rfl ?_
                refine ent_o rfl (ok_pickF rfl (decide_eq_false hg96) rfl) ?_
                refine ent_guardXT rfl rfl rfl rfl rfl ?_
                refine ent_o rfl (ok_move rfl) ?_
                refine ent_guardXF rfl rfl rfl rfl rfl ?_
                refine ent_guardXF rfl rfl rfl rfl rfl ?_
                refine ent_guardXF rfl rfl rfl rfl rfl ?_
                refine ent_guardXF rfl rfl rfl rfl rfl ?_
                refine ent_guardXT rfl rfl rfl rfl rfl ?_
                refine ent_o rfl (ok_pickF rfl rfl rfl) ?_
                refine ent_o rfl (ok_pickF rfl rfl rfl) ?_
                refine ent_nil ?_
                exact ent_rep ⟨rfl, rfl, rfl, rfl, rfl, slot_bool (dq_F rfl (fun h => h.elim (fun h => hg84 h.1) (fun h => (fun h => hg96 h.1) h.1))), trivial⟩ rfl
          refine ent_k hK24 ?_
          refine ent_condD rfl (fun h106 => ?_) (fun h106 => ?_)
          · have hno : ¬ c.Acc p := fun h => h.2.2.2 (a / c.ins) (a % c.ins) hdl hds (Int.emod_nonneg a (by omega)) (Int.emod_lt_of_pos a (by omega)) (hba.2 (by rw [← hxn, ← hxw]; exact h106))
            refine ent_seq fun K25 hK25 => ?_
            refine ent_region ?_
            refine ent_o rfl (ok_assign rfl) ?_
            refine ent_nil ?_
            refine ent_k hK25 ?_
            refine ent_ret ?_
            exact retR1 (.inr rfl) Try.results44 (resr_tmp (res_cv rfl (cv_int (by first | exact (Cnv.accErr_no h00 hno).symm | exact (Cnv.accErr_ok h00 hA).symm | exact (Cnv.accErr_err h20).symm))))
          · have hnbd : ¬ c.bad p (a / c.ins) (a % c.ins) := fun h => h106 (by have := hba.1 h; rw [← hxn, ← hxw] at this; exact this)
            refine ent_skip ?_
            refine ent_k hK21 ?_
            refine ent_region ?_
            refine ent_o rfl (ok_add rfl rfl (by omega) (by omega)) ?_
            refine ent_o rfl (ok_move rfl) ?_
            refine ent_nil ?_
            refine ent_again (s := (a)) (a + 1) ⟨(by first | rfl | assumption | omega | (simp_all; done) | grind), (by first | rfl | assumption | omega | (simp_all; done) | grind), (hgt.succ hi1 hnbd)⟩ (by first | omega | (dsimp only; omega)) (ent_rep ⟨rfl, rfl, rfl, rfl, rfl, trivial⟩ rfl)
        · have hA : c.Acc p := ⟨hR, ⟨hPl, hP0⟩, hpb, hgt.all hi1 (by omega)⟩
          refine ent_exit ?_
          refine ent_k hK17 ?_
          refine ent_seq fun K26 hK26 => ?_
          refine ent_region ?_
          refine ent_o rfl (ok_assign rfl) ?_
          refine ent_nil ?_
          refine ent_k hK26 ?_
          refine ent_ret ?_
          exact retR1 (.inr rfl) Try.results44 (resr_tmp (res_cv rfl (cv_int (by first | exact (Cnv.accErr_no h00 hno).symm | exact (Cnv.accErr_ok h00 hA).symm | exact (Cnv.accErr_err h20).symm))))
  · refine ent_o rfl (ok_call (build_no c (by first | rfl | assumption | omega | (simp_all; done) | grind) hOk) rfl) ?_
    refine ent_o rfl (ok_move rfl) ?_
    refine ent_o rfl (ok_extract rfl rfl) ?_
    refine ent_o rfl (ok_extract rfl rfl) ?_
    refine ent_o rfl (ok_assign rfl) ?_
    refine ent_o rfl (ok_assign rfl) ?_
    refine ent_nil ?_
    refine ent_k hK2 ?_
    refine ent_seq fun K27 hK27 => ?_
    refine ent_seq fun K28 hK28 => ?_
    refine ent_region ?_
    refine ent_o rfl (ok_move rfl) ?_
    refine ent_o rfl (ok_neq rfl rfl) ?_
    refine ent_nil ?_
    refine ent_k hK28 ?_
    refine ent_condD rfl (fun h20 => ?_) (fun h20 => ?_)
    · refine ent_seq fun K29 hK29 => ?_
      refine ent_region ?_
      refine ent_o rfl (ok_move rfl) ?_
      refine ent_o rfl (ok_assign rfl) ?_
      refine ent_nil ?_
      refine ent_k hK29 ?_
      refine ent_ret ?_
      exact retR1 (.inr rfl) Try.results44 (resr_tmp (res_cv rfl (cv_int (by first | exact (Cnv.accErr_no h00 hno).symm | exact (Cnv.accErr_ok h00 hA).symm | exact (Cnv.accErr_err h20).symm))))
    · exact absurd (Cnv.err_zero.1 (Classical.not_not.1 h20)) hOk
end Go.Proofs.Ytfjhbdfgbpcchaa
