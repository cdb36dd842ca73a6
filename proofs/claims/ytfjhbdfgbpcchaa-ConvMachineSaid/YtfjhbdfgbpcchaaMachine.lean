/-
  The law ConvMachine.
-/
import Derived.Test.YtfjhbdfgbpcchaaProg
import Derived.Test.YtfjhbdfgbpcchaaTab
import Derived.Test.YtfjhbdfgbpcchaaCy
import Derived.Test.YtfjhbdfgbpcchaaPlainS
import Derived.Test.YtfjhbdfgbpcchaaFieldA
import Derived.Test.YtfjhbdfgbpcchaaFieldB
import Derived.Test.YtfjhbdfgbpcchaaFieldC
import Derived.Test.YtfjhbdfgbpcchaaFieldE
import Derived.Test.YtfjhbdfgbpcchaaPoly
import Derived.Test.YtfjhbdfgbpcchaaBuild
import Derived.Test.YtfjhbdfgbpcchaaRefC
import Derived.Test.YtfjhbdfgbpcchaaStep
import Derived.Test.YtfjhbdfgbpcchaaRefN
import Derived.Test.YtfjhbdfgbpcchaaNext
import Derived.Test.YtfjhbdfgbpcchaaEncode
import Derived.Test.YtfjhbdfgbpcchaaTerm
open Go Go.Cw
namespace Go.Proofs.Ytfjhbdfgbpcchaa
set_option maxRecDepth 100000
set_option linter.unusedVariables false
set_option linter.unusedSimpArgs false
theorem ConvMachine_ok (c : Cnv) (us : List (List Int))  : Ctr Try.prog 7 [aCnv c, aSl 1 false aInts us] (aBool true) := by
  refine ctr_of Try.call7 Try.func7 rfl rfl ?_
  intro w O
  refine ent_lenC 0 2 rfl rfl (fun hlen0_2 => ?_)
  refine ent_lenC 0 3 rfl rfl (fun hlen0_3 => ?_)
  refine ent_len 1 rfl (fun hlen1 => ?_)
  refine ent_seq fun K1 hK1 => ?_
  refine ent_region ?_
  refine ent_boxS rfl rfl (AllOne.mem ⟨(one_int _), (one_int _), one_sl, one_sl, trivial⟩) (fun b2_1 => ?_)
  refine ent_o rfl (ok_assign rfl) ?_
  refine ent_nil ?_
  refine ent_k hK1 ?_
  refine ent_seq fun K2 hK2 => ?_
  refine ent_seq fun K3 hK3 => ?_
  refine ent_cut (⟨[(1, aSl 1 false aInts us), (2, aEx (.pointer (some ⟨b2_1, 0, none⟩))), (34, aBool (decide ((((¬ c.Short) ∨ (100 < (↑us.length : Int))) ∨ (c.err ≠ 0)) ∨ ((c.stepsErr us) ≠ 0))))], [oBox b2_1 27 [aInt c.F.P, aInt c.F.M, aSl 1 false aInt c.F.mod, aSl 1 false aRows c.Gen]]⟩) ?_ ?_
  · refine ent_region ?_
    refine ent_o rfl (ok_loadBS (k := 0) ti27 rfl rfl rfl) ?_
    refine ent_o rfl (ok_call (few_ok c) rfl) ?_
    refine ent_o rfl (ok_notD rfl) ?_
    refine ent_o rfl (ok_move rfl) ?_
    refine ent_guardXDf rfl rfl rfl rfl (fun hg19 => ?_) (fun hg19 => ?_)
    · have hFew := (Classical.not_not.1 hg19).1
      refine ent_o rfl (ok_move rfl) ?_
      refine ent_guardXT rfl rfl rfl rfl (decide_eq_false hg19) ?_
      refine ent_o rfl (ok_len rfl Try.runUnderlying42 rfl) ?_
      refine ent_guardXT rfl rfl rfl rfl (decide_eq_false hg19) ?_
      refine ent_o rfl (ok_gtr rfl rfl) ?_
      refine ent_o rfl (ok_pickF rfl (decide_eq_false hg19) rfl) ?_
      refine ent_o rfl (ok_move rfl) ?_
      refine ent_guardXDf rfl rfl rfl rfl (fun hg24 => ?_) (fun hg24 => ?_)
      · refine ent_o rfl (ok_loadBS (k := 0) ti27 rfl rfl rfl) ?_
        refine ent_guardXT rfl rfl rfl rfl (decide_eq_false hg24) ?_
        refine ent_o rfl (ok_call (rCnvCheck_ok c (by first | rfl | assumption | omega | (simp_all; done) | grind)) rfl) ?_
        refine ent_guardXT rfl rfl rfl rfl (decide_eq_false hg24) ?_
        refine ent_o rfl (ok_neq rfl rfl) ?_
        refine ent_o rfl (ok_pickF rfl (decide_eq_false hg24) rfl) ?_
        refine ent_o rfl (ok_move rfl) ?_
        refine ent_guardXDf rfl rfl rfl rfl (fun hg29 => ?_) (fun hg29 => ?_)
        · refine ent_o rfl (ok_loadBS (k := 0) ti27 rfl rfl rfl) ?_
          refine ent_guardXT rfl rfl rfl rfl (decide_eq_false hg29) ?_
          refine ent_o rfl (ok_move rfl) ?_
          refine ent_guardXT rfl rfl rfl rfl (decide_eq_false hg29) ?_
          refine ent_o rfl (ok_call (rSteps_ok c us) rfl) ?_
          refine ent_guardXT rfl rfl rfl rfl (decide_eq_false hg29) ?_
          refine ent_o rfl (ok_neq rfl rfl) ?_
          refine ent_o rfl (ok_pickF rfl (decide_eq_false hg29) rfl) ?_
          refine ent_nil ?_
          exact ent_rep ⟨rfl, rfl, slot_bool (dq_Q ((or_iff_right (fun h => h.elim (fun h => h.elim hg19 hg24) hg29)).trans Iff.rfl)), trivial⟩ rfl
        · refine ent_guardXF rfl rfl rfl rfl (decide_eq_true hg29) ?_
          refine ent_guardXF rfl rfl rfl rfl (decide_eq_true hg29) ?_
          refine ent_guardXF rfl rfl rfl rfl (decide_eq_true hg29) ?_
          refine ent_o rfl (ok_pickT rfl (decide_eq_true hg29) rfl) ?_
          refine ent_nil ?_
          exact ent_rep ⟨rfl, rfl, slot_bool (dq_T rfl (Or.inl (Or.inr hg29))), trivial⟩ rfl
      · refine ent_guardXF rfl rfl rfl rfl (decide_eq_true hg24) ?_
        refine ent_guardXF rfl rfl rfl rfl (decide_eq_true hg24) ?_
        refine ent_o rfl (ok_pickT rfl (decide_eq_true hg24) rfl) ?_
        refine ent_o rfl (ok_move rfl) ?_
        refine ent_guardXF rfl rfl rfl rfl rfl ?_
        refine ent_guardXF rfl rfl rfl rfl rfl ?_
        refine ent_guardXF rfl rfl rfl rfl rfl ?_
        refine ent_guardXF rfl rfl rfl rfl rfl ?_
        refine ent_o rfl (ok_pickT rfl rfl rfl) ?_
        refine ent_nil ?_
        exact ent_rep ⟨rfl, rfl, slot_bool (dq_T rfl (Or.inl (Or.inl (Or.inr hg24)))), trivial⟩ rfl
    · refine ent_guardXF rfl rfl rfl rfl (decide_eq_true hg19) ?_
      refine ent_guardXF rfl rfl rfl rfl (decide_eq_true hg19) ?_
      refine ent_o rfl (ok_pickT rfl (decide_eq_true hg19) rfl) ?_
      refine ent_o rfl (ok_move rfl) ?_
      refine ent_guardXF rfl rfl rfl rfl rfl ?_
      refine ent_guardXF rfl rfl rfl rfl rfl ?_
      refine ent_guardXF rfl rfl rfl rfl rfl ?_
      refine ent_o rfl (ok_pickT rfl rfl rfl) ?_
      refine ent_o rfl (ok_move rfl) ?_
      refine ent_guardXF rfl rfl rfl rfl rfl ?_
      refine ent_guardXF rfl rfl rfl rfl rfl ?_
      refine ent_guardXF rfl rfl rfl rfl rfl ?_
      refine ent_guardXF rfl rfl rfl rfl rfl ?_
      refine ent_o rfl (ok_pickT rfl rfl rfl) ?_
      refine ent_nil ?_
      exact ent_rep ⟨rfl, rfl, slot_bool (dq_T rfl (Or.inl (Or.inl (Or.inl hg19)))), trivial⟩ rfl
  refine ent_k hK3 ?_
  refine ent_condD rfl (fun h34 => ?_) (fun h34 => ?_)
  · refine ent_seq fun K4 hK4 => ?_
    refine ent_region ?_
    refine ent_o rfl (ok_assign rfl) ?_
    refine ent_nil ?_
    refine ent_k hK4 ?_
    refine ent_ret ?_
    exact retR1 (.inr rfl) Try.results7 (resr_tmp (res_cv rfl (cv_bool (by first | rfl | exact absurd hfin (by assumption) | exact absurd fourC_nx (by assumption) | exact decide_eq_true fourC_out | (rw [fourC_out]; rfl)))))
  · have hFew : c.Few := by by_cases g : c.Short; exact g.1; exact absurd (.inl (.inl (.inl g))) h34
    have hul : us.length ≤ 100 := by by_cases g : us.length ≤ 100; exact g; exact absurd (.inl (.inl (.inr (by omega)))) h34
    have hOk : c.Ok := by by_cases g : c.err = 0; exact Cnv.err_zero.1 g; exact absurd (.inl (.inr g)) h34
    have hG : c.GoodU us := by by_cases g : c.stepsErr us = 0; exact Cnv.stepsErr_zero.1 g; exact absurd (.inr g) h34
    have hq := hOk.fld.1.bd.2.2.2.2.2.1
    have hm4 := hFew.mem_le
    have hgt : c.GoodU (c.term us) := Cnv.GoodU.term hq hG c.mem
    have hlt : (c.term us).length = us.length + c.mem.toNat := Cnv.length_termTo us c.mem
    have hze : c.encErr (c.term us) = 0 := Cnv.encErr_zero.2 ⟨hOk, hgt⟩
    have hEl : c.encE (c.term us) = c.encL (c.term us) := if_pos hze
    have hll : (c.encE (c.term us)).length = (c.term us).length := by rw [hEl, Cnv.length_encL]
    refine ent_skip ?_
    refine ent_k hK2 ?_
    refine ent_seq fun K5 hK5 => ?_
    refine ent_region ?_
    refine ent_o rfl (ok_loadBS (k := 0) ti27 rfl rfl rfl) ?_
    refine ent_o rfl (ok_move rfl) ?_
    refine ent_o rfl (ok_call (rTerminate_ok c us (by first | rfl | assumption | omega | (simp_all; done) | grind) (by first | rfl | assumption | omega | (simp_all; done) | grind)) rfl) ?_
    refine ent_o rfl (ok_assign rfl) ?_
    refine ent_nil ?_
    refine ent_k hK5 ?_
    refine ent_seq fun K6 hK6 => ?_
    refine ent_region ?_
    refine ent_o rfl (ok_loadBS (k := 0) ti27 rfl rfl rfl) ?_
    refine ent_o rfl (ok_move rfl) ?_
    refine ent_o rfl (ok_call (Encode_ok c (c.term us) (by first | rfl | assumption | omega | (simp_all; done) | grind) (by first | rfl | assumption | omega | (simp_all; done) | grind)) rfl) ?_
    refine ent_o rfl (ok_move rfl) ?_
    refine ent_o rfl (ok_extract rfl rfl) ?_
    refine ent_o rfl (ok_extract rfl rfl) ?_
    refine ent_o rfl (ok_assign rfl) ?_
    refine ent_o rfl (ok_assign rfl) ?_
    refine ent_nil ?_
    refine ent_k hK6 ?_
    refine ent_seq fun K7 hK7 => ?_
    refine ent_seq fun K8 hK8 => ?_
    refine ent_cut (⟨[(2, aEx (.pointer (some ⟨b2_1, 0, none⟩))), (5, aSl 1 false aInts (c.term us)), (6, aSl 1 false aInts (c.encE (c.term us))), (52, aBool (decide (((c.encErr (c.term us)) ≠ 0) ∨ ((↑(c.encE (c.term us)).length : Int) ≠ (↑(c.term us).length : Int)))))], [oBox b2_1 27 [aInt c.F.P, aInt c.F.M, aSl 1 false aInt c.F.mod, aSl 1 false aRows c.Gen]]⟩) ?_ ?_
    · refine ent_region ?_
      refine ent_o rfl (ok_move rfl) ?_
      refine ent_o rfl (ok_neq rfl rfl) ?_
      refine ent_o rfl (ok_move rfl) ?_
      refine ent_guardXDf rfl rfl rfl rfl (fun hg46 => ?_) (fun hg46 => ?_)
      · refine ent_o rfl (ok_move rfl) ?_
        refine ent_guardXT rfl rfl rfl rfl (decide_eq_false hg46) ?_
        refine ent_o rfl (ok_len rfl Try.runUnderlying42 rfl) ?_
        refine ent_guardXT rfl rfl rfl rfl (decide_eq_false hg46) ?_
        refine ent_o rfl (ok_move rfl) ?_
        refine ent_guardXT rfl rfl rfl rfl (decide_eq_false hg46) ?_
        refine ent_o rfl (ok_len rfl Try.runUnderlying42 rfl) ?_
        refine ent_guardXT rfl rfl rfl rfl (decide_eq_false hg46) ?_
        refine ent_o rfl (ok_neq rfl rfl) ?_
        refine ent_o rfl (ok_pickF rfl (decide_eq_false hg46) rfl) ?_
        refine ent_nil ?_
        exact ent_rep ⟨rfl, rfl, rfl, slot_bool (dq_Q ((or_iff_right hg46).trans Iff.rfl)), trivial⟩ rfl
      · refine ent_guardXF rfl rfl rfl rfl (decide_eq_true hg46) ?_
        refine ent_guardXF rfl rfl rfl rfl (decide_eq_true hg46) ?_
        refine ent_guardXF rfl rfl rfl rfl (decide_eq_true hg46) ?_
        refine ent_guardXF rfl rfl rfl rfl (decide_eq_true hg46) ?_
        refine ent_o rfl (ok_pickT rfl (decide_eq_true hg46) rfl) ?_
        refine ent_nil ?_
        exact ent_rep ⟨rfl, rfl, rfl, slot_bool (dq_T rfl (Or.inl hg46)), trivial⟩ rfl
    refine ent_k hK8 ?_
    refine ent_condD rfl (fun h52 => ?_) (fun h52 => ?_)
    · exact absurd h52 (by rintro (g | g); exact g hze; exact g (by omega))
    · refine ent_skip ?_
      refine ent_k hK7 ?_
      refine ent_seq fun K9 hK9 => ?_
      refine ent_region ?_
      refine ent_o rfl (ok_assign rfl) ?_
      refine ent_nil ?_
      refine ent_k hK9 ?_
      refine ent_seq fun K10 hK10 => ?_
      refine ent_seq fun K11 hK11 => ?_
      refine ent_region ?_
      refine ent_o rfl (ok_assign rfl) ?_
      refine ent_nil ?_
      refine ent_k hK11 ?_
      refine ent_block ?_
      refine ent_loop (fun (t : Int) => (⟨[(2, aEx (.pointer (some ⟨b2_1, 0, none⟩))), (5, aSl 1 false aInts (c.term us)), (6, aSl 1 false aInts (c.encE (c.term us))), (8, aInt (c.encS (c.term us) t.toNat)), (9, aInt t)], [oBox b2_1 27 [aInt c.F.P, aInt c.F.M, aSl 1 false aInt c.F.mod, aSl 1 false aRows c.Gen]]⟩ : St)) (fun (t : Int) => (0 ≤ t) ∧ (t ≤ (c.term us).length)) (fun (t : Int) => ((c.term us).length - t).toNat) 0 ⟨(by first | rfl | assumption | omega | (simp_all; done) | grind), (by first | rfl | assumption | omega | (simp_all; done) | grind)⟩ (ent_rep ⟨rfl, rfl, rfl, slot_av (av_int (show 0 = c.encS (c.term us) (0 : Int).toNat by rfl)), slot_av (av_int (show 0 = (0 : Int) by first | rfl | assumption | omega | (simp_all; done) | grind)), trivial⟩ rfl) ?_
      rintro t ⟨t0, t1⟩
      show Ent _ (⟨[(2, aEx (.pointer (some ⟨b2_1, 0, none⟩))), (5, aSl 1 false aInts (c.term us)), (6, aSl 1 false aInts (c.encE (c.term us))), (8, aInt (c.encS (c.term us) t.toNat)), (9, aInt t)], [oBox b2_1 27 [aInt c.F.P, aInt c.F.M, aSl 1 false aInt c.F.mod, aSl 1 false aRows c.Gen]]⟩ : St) _
      refine ent_seq fun K12 hK12 => ?_
      refine ent_seq fun K13 hK13 => ?_
      refine ent_region ?_
      refine ent_o rfl (ok_move rfl) ?_
      refine ent_o rfl (ok_move rfl) ?_
      refine ent_o rfl (ok_len rfl Try.runUnderlying42 rfl) ?_
      refine ent_o rfl (ok_lss rfl rfl) ?_
      refine ent_nil ?_
      refine ent_k hK13 ?_
      refine ent_condD rfl (fun h56 => ?_) (fun h56 => ?_)
      · have hs := Cnv.encS_lt hq hgt t.toNat (by omega)
        have hnz : c.nxErr (c.encS (c.term us) t.toNat) (ix [] (c.term us) t) = 0 := Cnv.nxErr_zero.2 ⟨hOk, hs, hgt.at t0 h56⟩
        have hns : c.nxSt (c.encS (c.term us) t.toNat) (ix [] (c.term us) t) = _ := if_pos hnz
        refine ent_skip ?_
        refine ent_k hK12 ?_
        refine ent_seq fun K14 hK14 => ?_
        refine ent_block ?_
        refine ent_seq fun K15 hK15 => ?_
        refine ent_draw 14 mixed (by kernel_rfl) (by kernel_rfl) (by kernel_rfl) ?_
        refine dw_o rfl (ok_loadBS (k := 0) ti27 rfl rfl rfl) ?_
        refine dw_o rfl (ok_move rfl) ?_
        refine dw_o rfl (ok_move rfl) ?_
        refine dw_o rfl (ok_move rfl) ?_
        refine dw_o rfl (ok_index [] sl42 rfl rfl (by omega) (by omega)) ?_
        refine dw_o rfl (ok_load ti22 rfl) ?_
        refine dw_o rfl (ok_call (Next_ok c (c.encS (c.term us) t.toNat) (ix [] (c.term us) t) (by first | rfl | assumption | omega | (simp_all; done) | grind)) rfl) ?_
        refine dw_o rfl (ok_move rfl) ?_
        refine dw_o rfl (ok_extract rfl rfl) ?_
        refine dw_o rfl (ok_extract rfl rfl) ?_
        refine dw_o rfl (ok_extract rfl rfl) ?_
        refine dw_o rfl (ok_assign rfl) ?_
        refine dw_o rfl (ok_assign rfl) ?_
        refine dw_o rfl (ok_assign rfl) ?_
        refine dw_nil ?_
        refine ent_nil ?_
        refine ent_k hK15 ?_
        refine ent_seq fun K16 hK16 => ?_
        refine ent_seq fun K17 hK17 => ?_
        refine ent_cut (⟨[(2, aEx (.pointer (some ⟨b2_1, 0, none⟩))), (5, aSl 1 false aInts (c.term us)), (6, aSl 1 false aInts (c.encE (c.term us))), (9, aInt t), (10, aInt (c.nxSt (c.encS (c.term us) t.toNat) (ix [] (c.term us) t))), (80, aBool (decide (((c.nxErr (c.encS (c.term us) t.toNat) (ix [] (c.term us) t)) ≠ 0) ∨ (¬ ((c.nxOut (c.encS (c.term us) t.toNat) (ix [] (c.term us) t)) = (ix [] (c.encE (c.term us)) t))))))], [oBox b2_1 27 [aInt c.F.P, aInt c.F.M, aSl 1 false aInt c.F.mod, aSl 1 false aRows c.Gen]]⟩) ?_ ?_
        · refine ent_region ?_
          refine ent_o rfl (ok_move rfl) ?_
          refine ent_o rfl (ok_neq rfl rfl) ?_
          refine ent_o rfl (ok_move rfl) ?_
          refine ent_guardXDf rfl rfl rfl rfl (fun hg72 => ?_) (fun hg72 => ?_)
          · refine ent_o rfl (ok_move rfl) ?_
            refine ent_guardXT rfl rfl rfl rfl (decide_eq_false hg72) ?_
            refine ent_o rfl (ok_move rfl) ?_
            refine ent_guardXT rfl rfl rfl rfl (decide_eq_false hg72) ?_
            refine ent_o rfl (ok_move rfl) ?_
            refine ent_guardXT rfl rfl rfl rfl (decide_eq_false hg72) ?_
            refine ent_o rfl (ok_index [] sl42 rfl rfl (by omega) (by omega)) ?_
            refine ent_guardXT rfl rfl rfl rfl (decide_eq_false hg72) ?_
            refine ent_o rfl (ok_load ti22 rfl) ?_
            refine ent_guardXT rfl rfl rfl rfl (decide_eq_false hg72) ?_
            refine ent_o rfl (ok_call (SameInts_ok (c.nxOut (c.encS (c.term us) t.toNat) (ix [] (c.term us) t)) (ix [] (c.encE (c.term us)) t)) rfl) ?_
            refine ent_guardXT rfl rfl rfl rfl (decide_eq_false hg72) ?_
            refine ent_o rfl (ok_notD rfl) ?_
            refine ent_o rfl (ok_pickF rfl (decide_eq_false hg72) rfl) ?_
            refine ent_nil ?_
            exact ent_rep ⟨rfl, rfl, rfl, rfl, rfl, slot_bool (dq_Q ((or_iff_right hg72).trans Iff.rfl)), trivial⟩ rfl
          · refine ent_guardXF rfl rfl rfl rfl (decide_eq_true hg72) ?_
            refine ent_guardXF rfl rfl rfl rfl (decide_eq_true hg72) ?_
            refine ent_guardXF rfl rfl rfl rfl (decide_eq_true hg72) ?_
            refine ent_guardXF rfl rfl rfl rfl (decide_eq_true hg72) ?_
            refine ent_guardXF rfl rfl rfl rfl (decide_eq_true hg72) ?_
            refine ent_guardXF rfl rfl rfl rfl (decide_eq_true hg72) ?_
            refine ent_o rfl (ok_pickT rfl (decide_eq_true hg72) rfl) ?_
            refine ent_nil ?_
            exact ent_rep ⟨rfl, rfl, rfl, rfl, rfl, slot_bool (dq_T rfl (Or.inl hg72)), trivial⟩ rfl
        refine ent_k hK17 ?_
        refine ent_condD rfl (fun h80 => ?_) (fun h80 => ?_)
        · exact absurd h80 (by rintro (g | g); exact g hnz; exact g (by rw [hEl, Cnv.ix_encL _ t0 h56]; exact if_pos hnz))
        · refine ent_skip ?_
          refine ent_k hK16 ?_
          refine ent_region ?_
          refine ent_o rfl (ok_move rfl) ?_
          refine ent_o rfl (ok_assign rfl) ?_
          refine ent_nil ?_
          refine ent_k hK14 ?_
          refine ent_region ?_
          refine ent_o rfl (ok_move rfl) ?_
          refine ent_o rfl (ok_add rfl rfl (by omega) (by omega)) ?_
          refine ent_o rfl (ok_assign rfl) ?_
          refine ent_nil ?_
          refine ent_again (s := (t)) (t + 1) ⟨(by first | rfl | assumption | omega | (simp_all; done) | grind), (by first | rfl | assumption | omega | (simp_all; done) | grind)⟩ (by first | omega | (dsimp only; omega)) (ent_rep ⟨rfl, rfl, rfl, slot_av (av_int (show c.nxSt (c.encS (c.term us) t.toNat) (ix [] (c.term us) t) = c.encS (c.term us) (t + 1).toNat by rw [hns]; exact (c.encS_succ _ t0).symm)), rfl, trivial⟩ rfl)
      · have hfin : c.encS (c.term us) t.toNat = 0 := by rw [show t.toNat = (c.term us).length by omega]; exact Cnv.encS_term hq hG
        have hf4 := fourC_few
        refine ent_exit ?_
        refine ent_k hK10 ?_
        refine ent_seq fun K18 hK18 => ?_
        refine ent_region ?_
        refine ent_o rfl (ok_call four_ok rfl) ?_
        refine ent_buildN aInt [1] rfl vt22 (by decide) (⟨0, 1, rfl, .inl ⟨rfl, _, rfl, (one_int _), rfl, rfl⟩⟩) rfl (fun b84_2 => ?_)
        refine ent_give 0 84 rfl (cv_vec (k := 0) (off_erase rfl) (by first | rfl | (simp; done) | (simp_all; done) | omega) rfl) ?_
        refine ent_o rfl (ok_call (Next_ok fourC 0 [1] hf4) rfl) ?_
        refine ent_o rfl (ok_move rfl) ?_
        refine ent_o rfl (ok_extract rfl rfl) ?_
        refine ent_o rfl (ok_extract rfl rfl) ?_
        refine ent_o rfl (ok_extract rfl rfl) ?_
        refine ent_o rfl (ok_assign rfl) ?_
        refine ent_o rfl (ok_assign rfl) ?_
        refine ent_o rfl (ok_assign rfl) ?_
        refine ent_nil ?_
        refine ent_k hK18 ?_
        refine ent_seq fun K19 hK19 => ?_
        refine ent_region ?_
        refine ent_o rfl (ok_move rfl) ?_
        refine ent_o rfl (ok_eql rfl rfl) ?_
        refine ent_o rfl (ok_move rfl) ?_
        refine ent_guardXDt rfl rfl rfl rfl (fun hg91 => ?_) (fun hg91 => ?_)
        · refine ent_o rfl (ok_move rfl) ?_
          refine ent_guardXT rfl rfl rfl rfl (decide_eq_true hg91) ?_
          refine ent_o rfl (ok_eql rfl rfl) ?_
          refine ent_o rfl (ok_pickT rfl (decide_eq_true hg91) rfl) ?_
          refine ent_o rfl (ok_move rfl) ?_
          refine ent_guardXDt rfl rfl rfl rfl (fun hg95 => ?_) (fun hg95 => ?_)
          · refine ent_o rfl (ok_move rfl) ?_
            refine ent_guardXT rfl rfl rfl rfl (decide_eq_true hg95) ?_
            refine ent_buildN aInt [1, 1] rfl vt22 (by decide) (⟨0, 1, rfl, .inl ⟨rfl, _, rfl, (one_int _), rfl, ⟨1, 1, rfl, .inl ⟨rfl, _, rfl, (one_int _), rfl, rfl⟩⟩⟩⟩) rfl (fun b97_3 => ?_)
            refine ent_guardXT rfl rfl rfl rfl (decide_eq_true hg95) ?_
            refine ent_o rfl (ok_callP [0] (pl_ex) (SameInts_ok (fourC.nxOut 0 [1]) [1, 1]) ⟨arg_a rfl (cv_id (sub_lent _)), arg_a rfl (cv_vec (k := 0) (off_lent rfl (by decide)) (by first | rfl | (simp; done) | (simp_all; done) | omega) (by first | rfl | assumption | omega | (simp_all; done) | grind)), trivial⟩) ?_
            refine ent_o rfl (ok_pickT rfl (decide_eq_true hg95) rfl) ?_
            refine ent_o rfl (ok_assign rfl) ?_
            refine ent_nil ?_
            refine ent_k hK19 ?_
            refine ent_ret ?_
            exact retR1 (.inr rfl) Try.results7 (resr_tmp (res_cv rfl (cv_bool (by first | rfl | exact absurd hfin (by assumption) | exact absurd fourC_nx (by assumption) | exact decide_eq_true fourC_out | (rw [fourC_out]; rfl)))))
          · refine ent_guardXF rfl rfl rfl rfl (decide_eq_false hg95) ?_
            refine ent_guardXF rfl rfl rfl rfl (decide_eq_false hg95) ?_
            refine ent_o rfl (ok_pickF rfl (decide_eq_false hg95) rfl) ?_
            refine ent_o rfl (ok_assign rfl) ?_
            refine ent_nil ?_
            refine ent_k hK19 ?_
            refine ent_ret ?_
            exact retR1 (.inr rfl) Try.results7 (resr_tmp (res_cv rfl (cv_bool (by first | rfl | exact absurd hfin (by assumption) | exact absurd fourC_nx (by assumption) | exact decide_eq_true fourC_out | (rw [fourC_out]; rfl)))))
        · refine ent_guardXF rfl rfl rfl rfl (decide_eq_false hg91) ?_
          refine ent_o rfl (ok_pickF rfl (decide_eq_false hg91) rfl) ?_
          refine ent_o rfl (ok_move rfl) ?_
          refine ent_guardXF rfl rfl rfl rfl rfl ?_
          refine ent_guardXF rfl rfl rfl rfl rfl ?_
          refine ent_guardXF rfl rfl rfl rfl rfl ?_
          refine ent_o rfl (ok_pickF rfl rfl rfl) ?_
          refine ent_o rfl (ok_assign rfl) ?_
          refine ent_nil ?_
          refine ent_k hK19 ?_
          refine ent_ret ?_
          exact retR1 (.inr rfl) Try.results7 (resr_tmp (res_cv rfl (cv_bool (by first | rfl | exact absurd hfin (by assumption) | exact absurd fourC_nx (by assumption) | exact decide_eq_true fourC_out | (rw [fourC_out]; rfl)))))
end Go.Proofs.Ytfjhbdfgbpcchaa
