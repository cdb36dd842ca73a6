/-
  The law ConvLinear.
-/
import Derived.Test.YtfjhbdfgbpcchaaProg
import Derived.Test.YtfjhbdfgbpcchaaTab
import Derived.Test.YtfjhbdfgbpcchaaCy
import Derived.Test.YtfjhbdfgbpcchaaPlainW
import Derived.Test.YtfjhbdfgbpcchaaFieldA
import Derived.Test.YtfjhbdfgbpcchaaFieldB
import Derived.Test.YtfjhbdfgbpcchaaFieldC
import Derived.Test.YtfjhbdfgbpcchaaFieldE
import Derived.Test.YtfjhbdfgbpcchaaPoly
import Derived.Test.YtfjhbdfgbpcchaaBuild
import Derived.Test.YtfjhbdfgbpcchaaRefC
import Derived.Test.YtfjhbdfgbpcchaaStep
import Derived.Test.YtfjhbdfgbpcchaaRefN
import Derived.Test.YtfjhbdfgbpcchaaNext
import Derived.Test.YtfjhbdfgbpcchaaEncode
import Derived.Test.YtfjhbdfgbpcchaaTerm
import Derived.Test.YtfjhbdfgbpcchaaAdd
open Go Go.Cw
namespace Go.Proofs.Ytfjhbdfgbpcchaa
set_option maxRecDepth 100000
set_option linter.unusedVariables false
set_option linter.unusedSimpArgs false
set_option maxHeartbeats 1000000 in
theorem ConvLinear_ok (c : Cnv) (u v : List (List Int)) (a : Int)  : Ctr Try.prog 6 [aCnv c, aSl 1 false aInts u, aSl 1 false aInts v, aInt a] (aBool true) := by
  refine ctr_of Try.call6 Try.func6 rfl rfl ?_
  intro w O
  refine ent_lenC 0 2 rfl rfl (fun hlen0_2 => ?_)
  refine ent_lenC 0 3 rfl rfl (fun hlen0_3 => ?_)
  refine ent_len 1 rfl (fun hlen1 => ?_)
  refine ent_len 2 rfl (fun hlen2 => ?_)
  refine ent_seq fun K1 hK1 => ?_
  refine ent_region ?_
  refine ent_boxS rfl rfl (AllOne.mem ⟨(one_int _), (one_int _), one_sl, one_sl, trivial⟩) (fun b4_1 => ?_)
  refine ent_o rfl (ok_assign rfl) ?_
  refine ent_nil ?_
  refine ent_k hK1 ?_
  refine ent_seq fun K2 hK2 => ?_
  refine ent_seq fun K3 hK3 => ?_
  refine ent_cut (⟨[(1, aSl 1 false aInts u), (2, aSl 1 false aInts v), (3, aInt a), (4, aEx (.pointer (some ⟨b4_1, 0, none⟩))), (51, aBool (decide ((((((¬ c.Short) ∨ (60 < (↑u.length : Int))) ∨ ((↑u.length : Int) ≠ (↑v.length : Int))) ∨ (c.err ≠ 0)) ∨ ((c.stepsErr u) ≠ 0)) ∨ ((c.stepsErr v) ≠ 0))))], [oBox b4_1 27 [aInt c.F.P, aInt c.F.M, aSl 1 false aInt c.F.mod, aSl 1 false aRows c.Gen]]⟩) ?_ ?_
  · refine ent_region ?_
    refine ent_o rfl (ok_loadBS (k := 0) ti27 rfl rfl rfl) ?_
    refine ent_o rfl (ok_call (few_ok c) rfl) ?_
    refine ent_o rfl (ok_notD rfl) ?_
    refine ent_o rfl (ok_move rfl) ?_
    refine ent_guardXDf rfl rfl rfl rfl (fun hg23 => ?_) (fun hg23 => ?_)
    · have hFew := (Classical.not_not.1 hg23).1
      refine ent_o rfl (ok_move rfl) ?_
      refine ent_guardXT rfl rfl rfl rfl (decide_eq_false hg23) ?_
      refine ent_o rfl (ok_len rfl Try.runUnderlying42 rfl) ?_
      refine ent_guardXT rfl rfl rfl rfl (decide_eq_false hg23) ?_
      refine ent_o rfl (ok_gtr rfl rfl) ?_
      refine ent_o rfl (ok_pickF rfl (decide_eq_false hg23) rfl) ?_
      refine ent_o rfl (ok_move rfl) ?_
      refine ent_guardXDf rfl rfl rfl rfl (fun hg28 => ?_) (fun hg28 => ?_)
      · refine ent_o rfl (ok_move rfl) ?_
        refine ent_guardXT rfl rfl rfl rfl (decide_eq_false hg28) ?_
        refine ent_o rfl (ok_len rfl Try.runUnderlying42 rfl) ?_
        refine ent_guardXT rfl rfl rfl rfl (decide_eq_false hg28) ?_
        refine ent_o rfl (ok_move rfl) ?_
        refine ent_guardXT rfl rfl rfl rfl (decide_eq_false hg28) ?_
        refine ent_o rfl (ok_len rfl Try.runUnderlying42 rfl) ?_
        refine ent_guardXT rfl rfl rfl rfl (decide_eq_false hg28) ?_
        refine ent_o rfl (ok_neq rfl rfl) ?_
        refine ent_o rfl (ok_pickF rfl (decide_eq_false hg28) rfl) ?_
        refine ent_o rfl (ok_move rfl) ?_
        refine ent_guardXDf rfl rfl rfl rfl (fun hg35 => ?_) (fun hg35 => ?_)
        · refine ent_o rfl (ok_loadBS (k := 0) ti27 rfl rfl rfl) ?_
          refine ent_guardXT rfl rfl rfl rfl (decide_eq_false hg35) ?_
          refine ent_o rfl (ok_call (rCnvCheck_ok c (by first | rfl | assumption | omega | (simp_all; done) | grind)) rfl) ?_
          refine ent_guardXT rfl rfl rfl rfl (decide_eq_false hg35) ?_
          refine ent_o rfl (ok_neq rfl rfl) ?_
          refine ent_o rfl (ok_pickF rfl (decide_eq_false hg35) rfl) ?_
          refine ent_o rfl (ok_move rfl) ?_
          refine ent_guardXDf rfl rfl rfl rfl (fun hg40 => ?_) (fun hg40 => ?_)
          · refine ent_o rfl (ok_loadBS (k := 0) ti27 rfl rfl rfl) ?_
            refine ent_guardXT rfl rfl rfl rfl (decide_eq_false hg40) ?_
            refine ent_o rfl (ok_move rfl) ?_
            refine ent_guardXT rfl rfl rfl rfl (decide_eq_false hg40) ?_
            refine ent_o rfl (ok_call (rSteps_ok c u) rfl) ?_
            refine ent_guardXT rfl rfl rfl rfl (decide_eq_false hg40) ?_
            refine ent_o rfl (ok_neq rfl rfl) ?_
            refine ent_o rfl (ok_pickF rfl (decide_eq_false hg40) rfl) ?_
            refine ent_o rfl (ok_move rfl) ?_
            refine ent_guardXDf rfl rfl rfl rfl (fun hg46 => ?_) (fun hg46 => ?_)
            · refine ent_o rfl (ok_loadBS (k := 0) ti27 rfl rfl rfl) ?_
              refine ent_guardXT rfl rfl rfl rfl (decide_eq_false hg46) ?_
              refine ent_o rfl (ok_move rfl) ?_
              refine ent_guardXT rfl rfl rfl rfl (decide_eq_false hg46) ?_
              refine ent_o rfl (ok_call (rSteps_ok c v) rfl) ?_
              refine ent_guardXT rfl rfl rfl rfl (decide_eq_false hg46) ?_
              refine ent_o rfl (ok_neq rfl rfl) ?_
              refine ent_o rfl (ok_pickF rfl (decide_eq_false hg46) rfl) ?_
              refine ent_nil ?_
              exact ent_rep ⟨rfl, rfl, rfl, rfl, slot_bool (dq_Q ((or_iff_right (fun h => h.elim (fun h => h.elim (fun h => h.elim (fun h => h.elim hg23 hg28) hg35) hg40) hg46)).trans Iff.rfl)), trivial⟩ rfl
            · refine ent_guardXF rfl rfl rfl rfl (decide_eq_true hg46) ?_
              refine ent_guardXF rfl rfl rfl rfl (decide_eq_true hg46) ?_
              refine ent_guardXF rfl rfl rfl rfl (decide_eq_true hg46) ?_
              refine ent_o rfl (ok_pickT rfl (decide_eq_true hg46) rfl) ?_
              refine ent_nil ?_
              exact ent_rep ⟨rfl, rfl, rfl, rfl, slot_bool (dq_T rfl (Or.inl (Or.inr hg46))), trivial⟩ rfl
          · refine ent_guardXF rfl rfl rfl rfl (decide_eq_true hg40) ?_
            refine ent_guardXF rfl rfl rfl rfl (decide_eq_true hg40) ?_
            refine ent_guardXF rfl rfl rfl rfl (decide_eq_true hg40) ?_
            refine ent_o rfl (ok_pickT rfl (decide_eq_true hg40) rfl) ?_
            refine ent_o rfl (ok_move rfl) ?_
            refine ent_guardXF rfl rfl rfl rfl rfl ?_
            refine ent_guardXF rfl rfl rfl rfl rfl ?_
            refine ent_guardXF rfl rfl rfl rfl rfl ?_
            refine ent_guardXF rfl rfl rfl rfl rfl ?_
            refine ent_o rfl (ok_pickT rfl rfl rfl) ?_
            refine ent_nil ?_
            exact ent_rep ⟨rfl, rfl, rfl, rfl, slot_bool (dq_T rfl (Or.inl (Or.inl (Or.inr hg40)))), trivial⟩ rfl
        · refine ent_guardXF rfl rfl rfl rfl (decide_eq_true hg35) ?_
          refine ent_guardXF rfl rfl rfl rfl (decide_eq_true hg35) ?_
          refine ent_o rfl (ok_pickT rfl (decide_eq_true hg35) rfl) ?_
          refine ent_o rfl (ok_move rfl) ?_
          refine ent_guardXF rfl rfl rfl rfl rfl ?_
          refine ent_guardXF rfl rfl rfl rfl rfl ?_
          refine ent_guardXF rfl rfl rfl rfl rfl ?_
          refine ent_guardXF rfl rfl rfl rfl rfl ?_
          refine ent_o rfl (ok_pickT rfl rfl rfl) ?_
          refine ent_o rfl (ok_move rfl) ?_
          refine ent_guardXF rfl rfl rfl rfl rfl ?_
          refine ent_guardXF rfl rfl rfl rfl rfl ?_
          refine ent_guardXF rfl rfl rfl rfl rfl ?_
          refine ent_guardXF rfl rfl rfl rfl rfl ?_
          refine ent_o rfl (ok_pickT rfl rfl rfl) ?_
          refine ent_nil ?_
          exact ent_rep ⟨rfl, rfl, rfl, rfl, slot_bool (dq_T rfl (Or.inl (Or.inl (Or.inl (Or.inr hg35))))), trivial⟩ rfl
      · refine ent_guardXF rfl rfl rfl rfl (decide_eq_true hg28) ?_
        refine ent_guardXF rfl rfl rfl rfl (decide_eq_true hg28) ?_
        refine ent_guardXF rfl rfl rfl rfl (decide_eq_true hg28) ?_
        refine ent_guardXF rfl rfl rfl rfl (decide_eq_true hg28) ?_
        refine ent_o rfl (ok_pickT rfl (decide_eq_true hg28) rfl) ?_
        refine ent_o rfl (ok_move rfl) ?_
        refine ent_guardXF rfl rfl rfl rfl rfl ?_
        refine ent_guardXF rfl rfl rfl rfl rfl ?_
        refine ent_guardXF rfl rfl rfl rfl rfl ?_
        refine ent_o rfl (ok_pickT rfl rfl rfl) ?_
        refine ent_o rfl (ok_move rfl) ?_
        refine ent_guardXF rfl rfl rfl rfl rfl ?_
        refine ent_guardXF rfl rfl rfl rfl rfl ?_
        refine ent_guardXF rfl rfl rfl rfl rfl ?_
        refine ent_guardXF rfl rfl rfl rfl rfl ?_
        refine ent_o rfl (ok_pickT rfl rfl rfl) ?_
        refine ent_o rfl (ok_move rfl) ?_
        refine ent_guardXF rfl rfl rfl rfl rfl ?_
        refine ent_guardXF rfl rfl rfl rfl rfl ?_
        refine ent_guardXF rfl rfl rfl rfl rfl ?_
        refine ent_guardXF rfl rfl rfl rfl rfl ?_
        refine ent_o rfl (ok_pickT rfl rfl rfl) ?_
        refine ent_nil ?_
        exact ent_rep ⟨rfl, rfl, rfl, rfl, slot_bool (dq_T rfl (Or.inl (Or.inl (Or.inl (Or.inl (Or.inr hg28)))))), trivial⟩ rfl
    · refine ent_guardXF rfl rfl rfl rfl (decide_eq_true hg23) ?_
      refine ent_guardXF rfl rfl rfl rfl (decide_eq_true hg23) ?_
      refine ent_o rfl (ok_pickT rfl (decide_eq_true hg23) rfl) ?_
      refine ent_o rfl (ok_move rfl) ?_
      refine ent_guardXF rfl rfl rfl rfl rfl ?_
      refine ent_guardXF rfl rfl rfl rfl rfl ?_
      refine ent_guardXF rfl rfl rfl rfl rfl ?_
      refine ent_guardXF rfl rfl rfl rfl rfl ?_
      refine ent_guardXF rfl rfl rfl rfl rfl ?_
      refine ent_o rfl (ok_pickT rfl rfl rfl) ?_
      refine ent_o rfl (ok_move rfl) ?_
      refine ent_guardXF rfl rfl rfl rfl rfl ?_
      refine ent_guardXF rfl rfl rfl rfl rfl ?_
      refine ent_guardXF rfl rfl rfl rfl rfl ?_
      refine ent_o rfl (ok_pickT rfl rfl rfl) ?_
      refine ent_o rfl (ok_move rfl) ?_
      refine ent_guardXF rfl rfl rfl rfl rfl ?_
      refine ent_guardXF rfl rfl rfl rfl rfl ?_
      refine ent_guardXF rfl rfl rfl rfl rfl ?_
      refine ent_guardXF rfl rfl rfl rfl rfl ?_
      refine ent_o rfl (ok_pickT rfl rfl rfl) ?_
      refine ent_o rfl (ok_move rfl) ?_
      refine ent_guardXF rfl rfl rfl rfl rfl ?_
      refine ent_guardXF rfl rfl rfl rfl rfl ?_
      refine ent_guardXF rfl rfl rfl rfl rfl ?_
      refine ent_guardXF rfl rfl rfl rfl rfl ?_
      refine ent_o rfl (ok_pickT rfl rfl rfl) ?_
      refine ent_nil ?_
      exact ent_rep ⟨rfl, rfl, rfl, rfl, slot_bool (dq_T rfl (Or.inl (Or.inl (Or.inl (Or.inl (Or.inl hg23)))))), trivial⟩ rfl
  refine ent_k hK3 ?_
  refine ent_condD rfl (fun h51 => ?_) (fun h51 => ?_)
  · refine ent_seq fun K4 hK4 => ?_
    refine ent_region ?_
    refine ent_o rfl (ok_assign rfl) ?_
    refine ent_nil ?_
    refine ent_k hK4 ?_
    refine ent_ret ?_
    exact retR1 (.inr rfl) Try.results6 (resr_tmp (res_cv rfl (cv_bool (by first | rfl | (exfalso; first | exact hg159 (by rw [hix0, List.length_replicate]; omega) | exact hg165 (by rw [htk, wtL_single]; exact wt1_replicate _) | exact h171 (by rw [hdr, eu]) | assumption)))))
  · have hFew : c.Few := by by_cases g : c.Short; exact g.1; exact absurd (.inl (.inl (.inl (.inl (.inl g))))) h51
    have hul : u.length ≤ 60 := by by_cases g : u.length ≤ 60; exact g; exact absurd (.inl (.inl (.inl (.inl (.inr (by omega)))))) h51
    have huv : u.length = v.length := by by_cases g : u.length = v.length; exact g; exact absurd (.inl (.inl (.inl (.inr (by omega))))) h51
    have hOk : c.Ok := by by_cases g : c.err = 0; exact Cnv.err_zero.1 g; exact absurd (.inl (.inl (.inr g))) h51
    have hu : c.GoodU u := by by_cases g : c.stepsErr u = 0; exact Cnv.stepsErr_zero.1 g; exact absurd (.inl (.inr g)) h51
    have hv : c.GoodU v := by by_cases g : c.stepsErr v = 0; exact Cnv.stepsErr_zero.1 g; exact absurd (.inr g) h51
    have hS := hOk.fld.1
    have hq := hS.bd
    have hkn := hOk.kn
    have hik : c.k = (c.Gen.length : Int) := rfl
    have hen : c.n = ((ix [] c.Gen 0).length : Int) := rfl
    have hf1 := hFew.1
    have hnl := hOk.len
    refine ent_skip ?_
    refine ent_k hK2 ?_
    refine ent_seq fun K5 hK5 => ?_
    refine ent_region ?_
    refine ent_o rfl (ok_assign rfl) ?_
    refine ent_nil ?_
    refine ent_k hK5 ?_
    refine ent_seq fun K6 hK6 => ?_
    refine ent_seq fun K7 hK7 => ?_
    refine ent_region ?_
    refine ent_o rfl (ok_assign rfl) ?_
    refine ent_nil ?_
    refine ent_k hK7 ?_
    refine ent_block ?_
    refine ent_open 22 1 false aInts (fun _ => rfl) ?_
    refine ent_loop (fun (ss : Int × Option Nat × Nat) => match ss with | (t, rr3, cc3) => (⟨[(1, aSl 1 false aInts u), (2, aSl 1 false aInts v), (3, aInt a), (4, aEx (.pointer (some ⟨b4_1, 0, none⟩))), (9, aEx (vec rr3 ((mapR (fun tt => addToL c.F (ix [] u tt) (inF c.F a) (ix [] v tt)) t).length) cc3)), (10, aInt t)], [oVec rr3 cc3 22 1 false aInts (mapR (fun tt => addToL c.F (ix [] u tt) (inF c.F a) (ix [] v tt)) t), oBox b4_1 27 [aInt c.F.P, aInt c.F.M, aSl 1 false aInt c.F.mod, aSl 1 false aRows c.Gen]]⟩ : St)) (fun (ss : Int × Option Nat × Nat) => match ss with | (t, rr3, cc3) => (0 ≤ t) ∧ (t ≤ u.length)) (fun (ss : Int × Option Nat × Nat) => match ss with | (t, rr3, cc3) => (u.length - t).toNat) (0, none, 0) ⟨(by first | rfl | assumption | omega | (simp_all; done) | grind), (by first | rfl | assumption | omega | (simp_all; done) | grind)⟩ (ent_rep ⟨rfl, rfl, rfl, rfl, slot_av ((show aEx (vec none ([] : List _).length 0) = aEx (vec none ((mapR (fun tt => addToL c.F (ix [] u tt) (inF c.F a) (ix [] v tt)) (0 : Int)).length) 0) from av_vec (congrArg List.length (show mapR (fun tt => addToL c.F (ix [] u tt) (inF c.F a) (ix [] v tt)) (0 : Int) = [] by first | rfl | simp [mapR_zero]).symm))), slot_av (av_int (show 0 = (0 : Int) by first | rfl | assumption | omega | (simp_all; done) | grind)), trivial⟩ (own_cons (own_vec (show mapR (fun tt => addToL c.F (ix [] u tt) (inF c.F a) (ix [] v tt)) (0 : Int) = [] by first | rfl | simp [mapR_zero])) (rfl))) ?_
    rintro ⟨t, rr3, cc3⟩ ⟨t0, t1⟩
    show Ent _ (⟨[(1, aSl 1 false aInts u), (2, aSl 1 false aInts v), (3, aInt a), (4, aEx (.pointer (some ⟨b4_1, 0, none⟩))), (9, aEx (vec rr3 ((mapR (fun tt => addToL c.F (ix [] u tt) (inF c.F a) (ix [] v tt)) t).length) cc3)), (10, aInt t)], [oVec rr3 cc3 22 1 false aInts (mapR (fun tt => addToL c.F (ix [] u tt) (inF c.F a) (ix [] v tt)) t), oBox b4_1 27 [aInt c.F.P, aInt c.F.M, aSl 1 false aInt c.F.mod, aSl 1 false aRows c.Gen]]⟩ : St) _
    have lmt := length_mapR (fun tt => addToL c.F (ix [] u tt) (inF c.F a) (ix [] v tt)) t
    refine ent_seq fun K8 hK8 => ?_
    refine ent_seq fun K9 hK9 => ?_
    refine ent_region ?_
    refine ent_o rfl (ok_move rfl) ?_
    refine ent_o rfl (ok_move rfl) ?_
    refine ent_o rfl (ok_len rfl Try.runUnderlying42 rfl) ?_
    refine ent_o rfl (ok_lss rfl rfl) ?_
    refine ent_nil ?_
    refine ent_k hK9 ?_
    refine ent_condD rfl (fun h55 => ?_) (fun h55 => ?_)
    · have lu1 := (hu.at t0 h55).1
      have lv1 := (hv.at t0 (show t < v.length by omega)).1
      refine ent_skip ?_
      refine ent_k hK8 ?_
      refine ent_seq fun K10 hK10 => ?_
      refine ent_block ?_
      refine ent_draw 17 mixed (by kernel_rfl) (by kernel_rfl) (by kernel_rfl) ?_
      refine dw_o rfl (ok_move rfl) ?_
      refine dw_o rfl (ok_fieldAddrEx Try.runUnderlying27 rfl Try.sizeOf24 (by decide) rfl) ?_
      refine dw_o rfl (ok_loadBS (k := 1) ti24 rfl rfl rfl) ?_
      refine dw_o rfl (ok_move rfl) ?_
      refine dw_o rfl (ok_move rfl) ?_
      refine dw_o rfl (ok_index [] sl42 rfl rfl (by omega) (by omega)) ?_
      refine dw_o rfl (ok_load ti22 rfl) ?_
      refine dw_o rfl (ok_fieldAddrEx Try.runUnderlying27 rfl Try.sizeOf24 (by decide) rfl) ?_
      refine dw_o rfl (ok_loadBS (k := 1) ti24 rfl rfl rfl) ?_
      refine dw_o rfl (ok_move rfl) ?_
      refine dw_o rfl (ok_call (rIn_ok c.F a) rfl) ?_
      refine dw_o rfl (ok_move rfl) ?_
      refine dw_o rfl (ok_move rfl) ?_
      refine dw_o rfl (ok_index [] sl42 rfl rfl (by omega) (by omega)) ?_
      refine dw_o rfl (ok_load ti22 rfl) ?_
      refine dw_o rfl (ok_call (rAddTo_ok c.F (ix [] u t) (inF c.F a) (ix [] v t) (by first | rfl | assumption | omega | (simp_all; done) | grind) (by first | rfl | assumption | omega | (simp_all; done) | grind) (by first | rfl | assumption | omega | (simp_all; done) | grind)) rfl) ?_
      refine dw_o rfl (ok_build1 (enc := aInts) (y := addToL c.F (ix [] u t) (inF c.F a) (ix [] v t)) vt42 rfl (elem_one one_sl) (by decide)) ?_
      refine dw_nil ?_
      refine ent_appendS (k := 0) rfl vt42 rfl rfl (by first | rfl | (simp; done) | (simp_all; done) | omega) rfl (cv_id sub_refl) (by first | omega | (simp only [List.length_append, List.length_cons, List.length_nil]; omega) | (simp; omega)) (by first | omega | (simp only [List.length_append, List.length_cons, List.length_nil]; omega) | (simp; omega)) (fun r75_3 cr75_3 => ?_)
      refine ent_o rfl (ok_assign rfl) ?_
      refine ent_nil ?_
      refine ent_k hK10 ?_
      refine ent_region ?_
      refine ent_o rfl (ok_move rfl) ?_
      refine ent_o rfl (ok_add rfl rfl (by omega) (by omega)) ?_
      refine ent_o rfl (ok_assign rfl) ?_
      refine ent_nil ?_
      refine ent_again (s := (t, rr3, cc3)) (t + 1, r75_3, cr75_3) ⟨(by first | rfl | assumption | omega | (simp_all; done) | grind), (by first | rfl | assumption | omega | (simp_all; done) | grind)⟩ (by first | omega | (dsimp only; omega)) (ent_rep ⟨rfl, rfl, rfl, rfl, slot_av (av_vec (congrArg List.length (show mapR (fun tt => addToL c.F (ix [] u tt) (inF c.F a) (ix [] v tt)) (t + 1) = (mapR (fun tt => addToL c.F (ix [] u tt) (inF c.F a) (ix [] v tt)) t) ++ [addToL c.F (ix [] u t) (inF c.F a) (ix [] v t)] by exact mapR_succ _ t0).symm)), rfl, trivial⟩ (own_cons (own_vec (show mapR (fun tt => addToL c.F (ix [] u tt) (inF c.F a) (ix [] v tt)) (t + 1) = (mapR (fun tt => addToL c.F (ix [] u tt) (inF c.F a) (ix [] v tt)) t) ++ [addToL c.F (ix [] u t) (inF c.F a) (ix [] v t)] by exact mapR_succ _ t0)) (rfl)))
    · have hse : mapR (fun tt => addToL c.F (ix [] u tt) (inF c.F a) (ix [] v tt)) t = Cnv.addU c.F u (inF c.F a) v := by rw [show t = (u.length : Int) by omega]; rfl
      have hs : c.GoodU (Cnv.addU c.F u (inF c.F a) v) := Cnv.addU_good hS _ hu
      have hw : c.GoodU (c.zrow :: u) := by intro x hx; rcases List.mem_cons.1 hx with rfl | hx; exact Cnv.zrow_good hq.2.2.2.2.2.1; exact hu x hx
      have ls := Cnv.length_addU c.F u (inF c.F a) v
      have lM : (mapR (fun tt => addToL c.F (ix [] u tt) (inF c.F a) (ix [] v tt)) t).length = u.length := by rw [hse, ls]
      have zu : c.encErr u = 0 := Cnv.encErr_zero.2 ⟨hOk, hu⟩
      have zv : c.encErr v = 0 := Cnv.encErr_zero.2 ⟨hOk, hv⟩
      have zs : c.encErr (mapR (fun tt => addToL c.F (ix [] u tt) (inF c.F a) (ix [] v tt)) t) = 0 := by rw [hse]; exact Cnv.encErr_zero.2 ⟨hOk, hs⟩
      have zw : c.encErr (c.zrow :: u) = 0 := Cnv.encErr_zero.2 ⟨hOk, hw⟩
      have eu : c.encE u = c.encL u := if_pos zu
      have ev : c.encE v = c.encL v := if_pos zv
      have es : c.encE (mapR (fun tt => addToL c.F (ix [] u tt) (inF c.F a) (ix [] v tt)) t) = c.encL (Cnv.addU c.F u (inF c.F a) v) := (if_pos zs).trans (by rw [hse])
      have ew : c.encE (c.zrow :: u) = List.replicate c.n.toNat 0 :: c.encL u := (if_pos zw).trans (Cnv.encL_cons hS u)
      have hW : ([List.replicate ((↑c.Gen.length : Int)).toNat 0] ++ u) = c.zrow :: u := rfl
      have zw2 : c.encErr ([List.replicate ((↑c.Gen.length : Int)).toNat 0] ++ u) = 0 := zw
      have ew2 : c.encE ([List.replicate ((↑c.Gen.length : Int)).toNat 0] ++ u) = List.replicate c.n.toNat 0 :: c.encL u := ew
      have lW : (c.encE ([List.replicate ((↑c.Gen.length : Int)).toNat 0] ++ u)).length = u.length + 1 := by rw [ew2, List.length_cons, Cnv.length_encL]
      have htk : List.take (1 : Int).toNat (c.encE ([List.replicate ((↑c.Gen.length : Int)).toNat 0] ++ u)) = [List.replicate c.n.toNat 0] := by rw [ew2]; rfl
      have hdr : List.drop (1 : Int).toNat (c.encE ([List.replicate ((↑c.Gen.length : Int)).toNat 0] ++ u)) = c.encL u := by rw [ew2]; rfl
      have hix0 : ix [] (c.encE ([List.replicate ((↑c.Gen.length : Int)).toNat 0] ++ u)) 0 = List.replicate c.n.toNat 0 := by rw [ew2]; rfl
      have lu := Cnv.length_encL (c := c) u
      have lv := Cnv.length_encL (c := c) v
      have lsl := Cnv.length_encL (c := c) (Cnv.addU c.F u (inF c.F a) v)
      refine ent_exit ?_
      refine ent_k hK6 ?_
      refine ent_seq fun K11 hK11 => ?_
      refine ent_region ?_
      refine ent_o rfl (ok_loadBS (k := 1) ti27 rfl rfl rfl) ?_
      refine ent_o rfl (ok_move rfl) ?_
      refine ent_o rfl (ok_call (Encode_ok c u (by first | rfl | assumption | omega | (simp_all; done) | grind) (by first | rfl | assumption | omega | (simp_all; done) | grind)) rfl) ?_
      refine ent_o rfl (ok_move rfl) ?_
      refine ent_o rfl (ok_extract rfl rfl) ?_
      refine ent_o rfl (ok_extract rfl rfl) ?_
      refine ent_o rfl (ok_assign rfl) ?_
      refine ent_o rfl (ok_assign rfl) ?_
      refine ent_nil ?_
      refine ent_k hK11 ?_
      refine ent_seq fun K12 hK12 => ?_
      refine ent_region ?_
      refine ent_o rfl (ok_loadBS (k := 1) ti27 rfl rfl rfl) ?_
      refine ent_o rfl (ok_move rfl) ?_
      refine ent_o rfl (ok_call (Encode_ok c v (by first | rfl | assumption | omega | (simp_all; done) | grind) (by first | rfl | assumption | omega | (simp_all; done) | grind)) rfl) ?_
      refine ent_o rfl (ok_move rfl) ?_
      refine ent_o rfl (ok_extract rfl rfl) ?_
      refine ent_o rfl (ok_extract rfl rfl) ?_
      refine ent_o rfl (ok_assign rfl) ?_
      refine ent_o rfl (ok_assign rfl) ?_
      refine ent_nil ?_
      refine ent_k hK12 ?_
      refine ent_seq fun K13 hK13 => ?_
      refine ent_give 0 9 rfl (cv_vec (k := 0) (off_erase rfl) (by first | rfl | (simp; done) | (simp_all; done) | omega) rfl) ?_
      refine ent_region ?_
      refine ent_o rfl (ok_loadBS (k := 0) ti27 rfl rfl rfl) ?_
      refine ent_o rfl (ok_move rfl) ?_
      refine ent_o rfl (ok_call (Encode_ok c (mapR (fun tt => addToL c.F (ix [] u tt) (inF c.F a) (ix [] v tt)) t) (by first | rfl | assumption | omega | (simp_all; done) | grind) (by first | rfl | assumption | omega | (simp_all; done) | grind)) rfl) ?_
      refine ent_o rfl (ok_move rfl) ?_
      refine ent_o rfl (ok_extract rfl rfl) ?_
      refine ent_o rfl (ok_extract rfl rfl) ?_
      refine ent_o rfl (ok_assign rfl) ?_
      refine ent_o rfl (ok_assign rfl) ?_
      refine ent_nil ?_
      refine ent_k hK13 ?_
      refine ent_seq fun K14 hK14 => ?_
      refine ent_draw 14 mixed (by kernel_rfl) (by kernel_rfl) (by kernel_rfl) ?_
      refine dw_o rfl (ok_loadBS (k := 0) ti27 rfl rfl rfl) ?_
      refine dw_o rfl (ok_fieldAddrEx Try.runUnderlying27 rfl Try.sizeOf25 (by decide) rfl) ?_
      refine dw_o rfl (ok_loadB (k := 0) Try.isAgg25 rfl rfl rfl) ?_
      refine dw_o rfl (ok_len rfl Try.runUnderlying25 rfl) ?_
      refine dw_o rfl (ok_makeA aInt 0 vt22 rfl rfl (by omega) (by omega) (by omega) (fun _ _ => rfl) (AllV.mem ⟨rfl, trivial⟩)) ?_
      refine dw_o rfl (ok_build1F (enc := aInts) (y := List.replicate ((↑c.Gen.length : Int)).toNat 0) vt42 rfl (cv_fr sub_refl) (elem_one one_sl) (by decide)) ?_
      refine dw_o rfl (ok_move rfl) ?_
      refine dw_o rfl (ok_appendF (xs := [List.replicate ((↑c.Gen.length : Int)).toNat 0]) (ys := u) vt42 rfl rfl (by simp) rfl (cv_id sub_refl) (by first | omega | (simp; omega)) (by first | omega | (simp; omega))) ?_
      refine dw_o rfl (ok_call (Encode_ok c ([List.replicate ((↑c.Gen.length : Int)).toNat 0] ++ u) (by first | rfl | assumption | omega | (simp_all; done) | grind) (by first | rfl | assumption | omega | (simp_all; done) | grind)) rfl) ?_
      refine dw_o rfl (ok_move rfl) ?_
      refine dw_o rfl (ok_extract rfl rfl) ?_
      refine dw_o rfl (ok_extract rfl rfl) ?_
      refine dw_o rfl (ok_assign rfl) ?_
      refine dw_o rfl (ok_assign rfl) ?_
      refine dw_nil ?_
      refine ent_nil ?_
      refine ent_k hK14 ?_
      refine ent_seq fun K15 hK15 => ?_
      refine ent_seq fun K16 hK16 => ?_
      refine ent_cut (⟨[(1, aSl 1 false aInts u), (3, aInt a), (4, aEx (.pointer (some ⟨b4_1, 0, none⟩))), (11, aSl 1 false aInts (c.encE u)), (13, aSl 1 false aInts (c.encE v)), (15, aSl 1 false aInts (c.encE (mapR (fun tt => addToL c.F (ix [] u tt) (inF c.F a) (ix [] v tt)) t))), (17, aSl 1 false aInts (c.encE ([List.replicate ((↑c.Gen.length : Int)).toNat 0] ++ u))), (148, aBool (decide (((((((((c.encErr u) ≠ 0) ∨ ((c.encErr v) ≠ 0)) ∨ ((c.encErr (mapR (fun tt => addToL c.F (ix [] u tt) (inF c.F a) (ix [] v tt)) t)) ≠ 0)) ∨ ((c.encErr ([List.replicate ((↑c.Gen.length : Int)).toNat 0] ++ u)) ≠ 0)) ∨ ((↑(c.encE u).length : Int) ≠ (↑u.length : Int))) ∨ ((↑(c.encE v).length : Int) ≠ (↑u.length : Int))) ∨ ((↑(c.encE (mapR (fun tt => addToL c.F (ix [] u tt) (inF c.F a) (ix [] v tt)) t)).length : Int) ≠ (↑u.length : Int))) ∨ ((↑(c.encE ([List.replicate ((↑c.Gen.length : Int)).toNat 0] ++ u)).length : Int) ≠ ((↑u.length : Int) + 1)))))], [oBox b4_1 27 [aInt c.F.P, aInt c.F.M, aSl 1 false aInt c.F.mod, aSl 1 false aRows c.Gen]]⟩) ?_ ?_
      · refine ent_region ?_
        refine ent_o rfl (ok_move rfl) ?_
        refine ent_o rfl (ok_neq rfl rfl) ?_
        refine ent_o rfl (ok_move rfl) ?_
        refine ent_guardXDf rfl rfl rfl rfl (fun hg108 => ?_) (fun hg108 => ?_)
        · refine ent_o rfl (ok_move rfl) ?_
          refine ent_guardXT rfl rfl rfl rfl (decide_eq_false hg108) ?_
          refine ent_o rfl (ok_neq rfl rfl) ?_
          refine ent_o rfl (ok_pickF rfl (decide_eq_false hg108) rfl) ?_
          refine ent_o rfl (ok_move rfl) ?_
          refine ent_guardXDf rfl rfl rfl rfl (fun hg112 => ?_) (fun hg112 => ?_)
          · refine ent_o rfl (ok_move rfl) ?_
            refine ent_guardXT rfl rfl rfl rfl (decide_eq_false hg112) ?_
            refine ent_o rfl (ok_neq rfl rfl) ?_
            refine ent_o rfl (ok_pickF rfl (decide_eq_false hg112) rfl) ?_
            refine ent_o rfl (ok_move rfl) ?_
            refine ent_guardXDf rfl rfl rfl rfl (fun hg116 => ?_) (fun hg116 => ?_)
            · refine ent_o rfl (ok_move rfl) ?_
              refine ent_guardXT rfl rfl rfl rfl (decide_eq_false hg116) ?_
              refine ent_o rfl (ok_neq rfl rfl) ?_
              refine ent_o rfl (ok_pickF rfl (decide_eq_false hg116) rfl) ?_
              refine ent_o rfl (ok_move rfl) ?_
              refine ent_guardXDf rfl rfl rfl rfl (fun hg120 => ?_) (fun hg120 => ?_)
              · refine ent_o rfl (ok_move rfl) ?_
                refine ent_guardXT rfl rfl rfl rfl (decide_eq_false hg120) ?_
                refine ent_o rfl (ok_len rfl Try.runUnderlying42 rfl) ?_
                refine ent_guardXT rfl rfl rfl rfl (decide_eq_false hg120) ?_
                refine ent_o rfl (ok_move rfl) ?_
                refine ent_guardXT rfl rfl rfl rfl (decide_eq_false hg120) ?_
                refine ent_o rfl (ok_len rfl Try.runUnderlying42 rfl) ?_
                refine ent_guardXT rfl rfl rfl rfl (decide_eq_false hg120) ?_
                refine ent_o rfl (ok_neq rfl rfl) ?_
                refine ent_o rfl (ok_pickF rfl (decide_eq_false hg120) rfl) ?_
                refine ent_o rfl (ok_move rfl) ?_
                refine ent_guardXDf rfl rfl rfl rfl (fun hg127 => ?_) (fun hg127 => ?_)
                · refine ent_o rfl (ok_move rfl) ?_
                  refine ent_guardXT rfl rfl rfl rfl (decide_eq_false hg127) ?_
                  refine ent_o rfl (ok_len rfl Try.runUnderlying42 rfl) ?_
                  refine ent_guardXT rfl rfl rfl rfl (decide_eq_false hg127) ?_
                  refine ent_o rfl (ok_move rfl) ?_
                  refine ent_guardXT rfl rfl rfl rfl (decide_eq_false hg127) ?_
                  refine ent_o rfl (ok_len rfl Try.runUnderlying42 rfl) ?_
                  refine ent_guardXT rfl rfl rfl rfl (decide_eq_false hg127) ?_
                  refine ent_o rfl (ok_neq rfl rfl) ?_
                  refine ent_o rfl (ok_pickF rfl (decide_eq_false hg127) rfl) ?_
                  refine ent_o rfl (ok_move rfl) ?_
                  refine ent_guardXDf rfl rfl rfl rfl (fun hg134 => ?_) (fun hg134 => ?_)
                  · refine ent_o rfl (ok_move rfl) ?_
                    refine ent_guardXT rfl rfl rfl rfl (decide_eq_false hg134) ?_
                    refine ent_o rfl (ok_len rfl Try.runUnderlying42 rfl) ?_
                    refine ent_guardXT rfl rfl rfl rfl (decide_eq_false hg134) ?_
                    refine ent_o rfl (ok_move rfl) ?_
                    refine ent_guardXT rfl rfl rfl rfl (decide_eq_false hg134) ?_
                    refine ent_o rfl (ok_len rfl Try.runUnderlying42 rfl) ?_
                    refine ent_guardXT rfl rfl rfl rfl (decide_eq_false hg134) ?_
                    refine ent_o rfl (ok_neq rfl rfl) ?_
                    refine ent_o rfl (ok_pickF rfl (decide_eq_false hg134) rfl) ?_
                    refine ent_o rfl (ok_move rfl) ?_
                    refine ent_guardXDf rfl rfl rfl rfl (fun hg141 => ?_) (fun hg141 => ?_)
                    · refine ent_o rfl (ok_move rfl) ?_
                      refine ent_guardXT rfl rfl rfl rfl (decide_eq_false hg141) ?_
                      refine ent_o rfl (ok_len rfl Try.runUnderlying42 rfl) ?_
                      refine ent_guardXT rfl rfl rfl rfl (decide_eq_false hg141) ?_
                      refine ent_o rfl (ok_move rfl) ?_
                      refine ent_guardXT rfl rfl rfl rfl (decide_eq_false hg141) ?_
                      refine ent_o rfl (ok_len rfl Try.runUnderlying42 rfl) ?_
                      refine ent_guardXT rfl rfl rfl rfl (decide_eq_false hg141) ?_
                      refine ent_o rfl (ok_add rfl rfl (by omega) (by omega)) ?_
                      refine ent_guardXT rfl rfl rfl rfl (decide_eq_false hg141) ?_
                      refine ent_o rfl (ok_neq rfl rfl) ?_
                      refine ent_o rfl (ok_pickF rfl (decide_eq_false hg141) rfl) ?_
                      refine ent_nil ?_
                      exact ent_rep ⟨rfl, rfl, rfl, rfl, rfl, rfl, rfl, slot_bool (dq_Q ((or_iff_right (fun h => h.elim (fun h => h.elim (fun h => h.elim (fun h => h.elim (fun h => h.elim (fun h => h.elim hg108 hg112) hg116) hg120) hg127) hg134) hg141)).trans Iff.rfl)), trivial⟩ rfl
                    · refine ent_guardXF rfl rfl rfl rfl (decide_eq_true hg141) ?_
                      refine ent_guardXF rfl rfl rfl rfl (decide_eq_true hg141) ?_
                      refine ent_guardXF rfl rfl rfl rfl (decide_eq_true hg141) ?_
                      refine ent_guardXF rfl rfl rfl rfl (decide_eq_true hg141) ?_
                      refine ent_guardXF rfl rfl rfl rfl (decide_eq_true hg141) ?_
                      refine ent_o rfl (ok_pickT rfl (decide_eq_true hg141) rfl) ?_
                      refine ent_nil ?_
                      exact ent_rep ⟨rfl, rfl, rfl, rfl, rfl, rfl, rfl, slot_bool (dq_T rfl (Or.inl (Or.inr hg141))), trivial⟩ rfl
                  · refine ent_guardXF rfl rfl rfl rfl (decide_eq_true hg134) ?_
                    refine ent_guardXF rfl rfl rfl rfl (decide_eq_true hg134) ?_
                    refine ent_guardXF rfl rfl rfl rfl (decide_eq_true hg134) ?_
                    refine ent_guardXF rfl rfl rfl rfl (decide_eq_true hg134) ?_
                    refine ent_o rfl (ok_pickT rfl (decide_eq_true hg134) rfl) ?_
                    refine ent_o rfl (ok_move rfl) ?_
                    refine ent_guardXF rfl rfl rfl rfl rfl ?_
                    refine ent_guardXF rfl rfl rfl rfl rfl ?_
                    refine ent_guardXF rfl rfl rfl rfl rfl ?_
                    refine ent_guardXF rfl rfl rfl rfl rfl ?_
                    refine ent_guardXF rfl rfl rfl rfl rfl ?_
                    refine ent_guardXF rfl rfl rfl rfl rfl ?_
                    refine ent_o rfl (ok_pickT rfl rfl rfl) ?_
                    refine ent_nil ?_
                    exact ent_rep ⟨rfl, rfl, rfl, rfl, rfl, rfl, rfl, slot_bool (dq_T rfl (Or.inl (Or.inl (Or.inr hg134)))), trivial⟩ rfl
                · refine ent_guardXF rfl rfl rfl rfl (decide_eq_true hg127) ?_
                  refine ent_guardXF rfl rfl rfl rfl (decide_eq_true hg127) ?_
                  refine ent_guardXF rfl rfl rfl rfl (decide_eq_true hg127) ?_
                  refine ent_guardXF rfl rfl rfl rfl (decide_eq_true hg127) ?_
                  refine ent_o rfl (ok_pickT rfl (decide_eq_true hg127) rfl) ?_
                  refine ent_o rfl (ok_move rfl) ?_
                  refine ent_guardXF rfl rfl rfl rfl rfl ?_
                  refine ent_guardXF rfl rfl rfl rfl rfl ?_
                  refine ent_guardXF rfl rfl rfl rfl rfl ?_
                  refine ent_guardXF rfl rfl rfl rfl rfl ?_
                  refine ent_guardXF rfl rfl rfl rfl rfl ?_
                  refine ent_o rfl (ok_pickT rfl rfl rfl) ?_
                  refine ent_o rfl (ok_move rfl) ?_
                  refine ent_guardXF rfl rfl rfl rfl rfl ?_
                  refine ent_guardXF rfl rfl rfl rfl rfl ?_
                  refine ent_guardXF rfl rfl rfl rfl rfl ?_
                  refine ent_guardXF rfl rfl rfl rfl rfl ?_
                  refine ent_guardXF rfl rfl rfl rfl rfl ?_
                  refine ent_guardXF rfl rfl rfl rfl rfl ?_
                  refine ent_o rfl (ok_pickT rfl rfl rfl) ?_
                  refine ent_nil ?_
                  exact ent_rep ⟨rfl, rfl, rfl, rfl, rfl, rfl, rfl, slot_bool (dq_T rfl (Or.inl (Or.inl (Or.inl (Or.inr hg127))))), trivial⟩ rfl
              · refine ent_guardXF rfl rfl rfl rfl (decide_eq_true hg120) ?_
                refine ent_guardXF rfl rfl rfl rfl (decide_eq_true hg120) ?_
                refine ent_guardXF rfl rfl rfl rfl (decide_eq_true hg120) ?_
                refine ent_guardXF rfl rfl rfl rfl (decide_eq_true hg120) ?_
                refine ent_o rfl (ok_pickT rfl (decide_eq_true hg120) rfl) ?_
                refine ent_o rfl (ok_move rfl) ?_
                refine ent_guardXF rfl rfl rfl rfl rfl ?_
                refine ent_guardXF rfl rfl rfl rfl rfl ?_
                refine ent_guardXF rfl rfl rfl rfl rfl ?_
                refine ent_guardXF rfl rfl rfl rfl rfl ?_
                refine ent_guardXF rfl rfl rfl rfl rfl ?_
                refine ent_o rfl (ok_pickT rfl rfl rfl) ?_
                refine ent_o rfl (ok_move rfl) ?_
                refine ent_guardXF rfl rfl rfl rfl rfl ?_
                refine ent_guardXF rfl rfl rfl rfl rfl ?_
                refine ent_guardXF rfl rfl rfl rfl rfl ?_
                refine ent_guardXF rfl rfl rfl rfl rfl ?_
                refine ent_guardXF rfl rfl rfl rfl rfl ?_
                refine ent_o rfl (ok_pickT rfl rfl rfl) ?_
                refine ent_o rfl (ok_move rfl) ?_
                refine ent_guardXF rfl rfl rfl rfl rfl ?_
                refine ent_guardXF rfl rfl rfl rfl rfl ?_
                refine ent_guardXF rfl rfl rfl rfl rfl ?_
                refine ent_guardXF rfl rfl rfl rfl rfl ?_
                refine ent_guardXF rfl rfl rfl rfl rfl ?_
                refine ent_guardXF rfl rfl rfl rfl rfl ?_
                refine ent_o rfl (ok_pickT rfl rfl rfl) ?_
                refine ent_nil ?_
                exact ent_rep ⟨rfl, rfl, rfl, rfl, rfl, rfl, rfl, slot_bool (dq_T rfl (Or.inl (Or.inl (Or.inl (Or.inl (Or.inr hg120)))))), trivial⟩ rfl
            · refine ent_guardXF rfl rfl rfl rfl (decide_eq_true hg116) ?_
              refine ent_o rfl (ok_pickT rfl (decide_eq_true hg116) rfl) ?_
              refine ent_o rfl (ok_move rfl) ?_
              refine ent_guardXF rfl rfl rfl rfl rfl ?_
              refine ent_guardXF rfl rfl rfl rfl rfl ?_
              refine ent_guardXF rfl rfl rfl rfl rfl ?_
              refine ent_guardXF rfl rfl rfl rfl rfl ?_
              refine ent_guardXF rfl rfl rfl rfl rfl ?_
              refine ent_o rfl (ok_pickT rfl rfl rfl) ?_
              refine ent_o rfl (ok_move rfl) ?_
              refine ent_guardXF rfl rfl rfl rfl rfl ?_
              refine ent_guardXF rfl rfl rfl rfl rfl ?_
              refine ent_guardXF rfl rfl rfl rfl rfl ?_
              refine ent_guardXF rfl rfl rfl rfl rfl ?_
              refine ent_guardXF rfl rfl rfl rfl rfl ?_
              refine ent_o rfl (ok_pickT rfl rfl rfl) ?_
              refine ent_o rfl (ok_move rfl) ?_
              refine ent_guardXF rfl rfl rfl rfl rfl ?_
              refine ent_guardXF rfl rfl rfl rfl rfl ?_
              refine ent_guardXF rfl rfl rfl rfl rfl ?_
              refine ent_guardXF rfl rfl rfl rfl rfl ?_
              refine ent_guardXF rfl rfl rfl rfl rfl ?_
              refine ent_o rfl (ok_pickT rfl rfl rfl) ?_
              refine ent_o rfl (ok_move rfl) ?_
              refine ent_guardXF rfl rfl rfl rfl rfl ?_
              refine ent_guardXF rfl rfl rfl rfl rfl ?_
              refine ent_guardXF rfl rfl rfl rfl rfl ?_
              refine ent_guardXF rfl rfl rfl rfl rfl ?_
              refine ent_guardXF rfl rfl rfl rfl rfl ?_
              refine ent_guardXF rfl rfl rfl rfl rfl ?_
              refine ent_o rfl (ok_pickT rfl rfl rfl) ?_
              refine ent_nil ?_
              exact ent_rep ⟨rfl, rfl, rfl, rfl, rfl, rfl, rfl, slot_bool (dq_T rfl (Or.inl (Or.inl (Or.inl (Or.inl (Or.inl (Or.inr hg116))))))), trivial⟩ rfl
          · refine ent_guardXF rfl rfl rfl rfl (decide_eq_true hg112) ?_
            refine ent_o rfl (ok_pickT rfl (decide_eq_true hg112) rfl) ?_
            refine ent_o rfl (ok_move rfl) ?_
            refine ent_guardXF rfl rfl rfl rfl rfl ?_
            refine ent_guardXF rfl rfl rfl rfl rfl ?_
            refine ent_o rfl (ok_pickT rfl rfl rfl) ?_
            refine ent_o rfl (ok_move rfl) ?_
            refine ent_guardXF rfl rfl rfl rfl rfl ?_
            refine ent_guardXF rfl rfl rfl rfl rfl ?_
            refine ent_guardXF rfl rfl rfl rfl rfl ?_
            refine ent_guardXF rfl rfl rfl rfl rfl ?_
            refine ent_guardXF rfl rfl rfl rfl rfl ?_
            refine ent_o rfl (ok_pickT rfl rfl rfl) ?_
            refine ent_o rfl (ok_move rfl) ?_
            refine ent_guardXF rfl rfl rfl rfl rfl ?_
            refine ent_guardXF rfl rfl rfl rfl rfl ?_
            refine ent_guardXF rfl rfl rfl rfl rfl ?_
            refine ent_guardXF rfl rfl rfl rfl rfl ?_
            refine ent_guardXF rfl rfl rfl rfl rfl ?_
            refine ent_o rfl (ok_pickT rfl rfl rfl) ?_
            refine ent_o rfl (ok_move rfl) ?_
            refine ent_guardXF rfl rfl rfl rfl rfl ?_
            refine ent_guardXF rfl rfl rfl rfl rfl ?_
            refine ent_guardXF rfl rfl rfl rfl rfl ?_
            refine ent_guardXF rfl rfl rfl rfl rfl ?_
            refine ent_guardXF rfl rfl rfl rfl rfl ?_
            refine ent_o rfl (ok_pickT rfl rfl rfl) ?_
            refine ent_o rfl (ok_move rfl) ?_
            refine ent_guardXF rfl rfl rfl rfl rfl ?_
            refine ent_guardXF rfl rfl rfl rfl rfl ?_
            refine ent_guardXF rfl rfl rfl rfl rfl ?_
            refine ent_guardXF rfl rfl rfl rfl rfl ?_
            refine ent_guardXF rfl rfl rfl rfl rfl ?_
            refine ent_guardXF rfl rfl rfl rfl rfl ?_
            refine ent_o rfl (ok_pickT rfl rfl rfl) ?_
            refine ent_nil ?_
            exact ent_rep ⟨rfl, rfl, rfl, rfl, rfl, rfl, rfl, slot_bool (dq_T rfl (Or.inl (Or.inl (Or.inl (Or.inl (Or.inl (Or.inl (Or.inr hg112)))))))), trivial⟩ rfl
        · refine ent_guardXF rfl rfl rfl rfl (decide_eq_true hg108) ?_
          refine ent_o rfl (ok_pickT rfl (decide_eq_true hg108) rfl) ?_
          refine ent_o rfl (ok_move rfl) ?_
          refine ent_guardXF rfl rfl rfl rfl rfl ?_
          refine ent_guardXF rfl rfl rfl rfl rfl ?_
          refine ent_o rfl (ok_pickT rfl rfl rfl) ?_
          refine ent_o rfl (ok_move rfl) ?_
          refine ent_guardXF rfl rfl rfl rfl rfl ?_
          refine ent_guardXF rfl rfl rfl rfl rfl ?_
          refine ent_o rfl (ok_pickT rfl rfl rfl) ?_
          refine ent_o rfl (ok_move rfl) ?_
          refine ent_guardXF rfl rfl rfl rfl rfl ?_
          refine ent_guardXF rfl rfl rfl rfl rfl ?_
          refine ent_guardXF rfl rfl rfl rfl rfl ?_
          refine ent_guardXF rfl rfl rfl rfl rfl ?_
          refine ent_guardXF rfl rfl rfl rfl rfl ?_
          refine ent_o rfl (ok_pickT rfl rfl rfl) ?_
          refine ent_o rfl (ok_move rfl) ?_
          refine ent_guardXF rfl rfl rfl rfl rfl ?_
          refine ent_guardXF rfl rfl rfl rfl rfl ?_
          refine ent_guardXF rfl rfl rfl rfl rfl ?_
          refine ent_guardXF rfl rfl rfl rfl rfl ?_
          refine ent_guardXF rfl rfl rfl rfl rfl ?_
          refine ent_o rfl (ok_pickT rfl rfl rfl) ?_
          refine ent_o rfl (ok_move rfl) ?_
          refine ent_guardXF rfl rfl rfl rfl rfl ?_
          refine ent_guardXF rfl rfl rfl rfl rfl ?_
          refine ent_guardXF rfl rfl rfl rfl rfl ?_
          refine ent_guardXF rfl rfl rfl rfl rfl ?_
          refine ent_guardXF rfl rfl rfl rfl rfl ?_
          refine ent_o rfl (ok_pickT rfl rfl rfl) ?_
          refine ent_o rfl (ok_move rfl) ?_
          refine ent_guardXF rfl rfl rfl rfl rfl ?_
          refine ent_guardXF rfl rfl rfl rfl rfl ?_
          refine ent_guardXF rfl rfl rfl rfl rfl ?_
          refine ent_guardXF rfl rfl rfl rfl rfl ?_
          refine ent_guardXF rfl rfl rfl rfl rfl ?_
          refine ent_guardXF rfl rfl rfl rfl rfl ?_
          refine ent_o rfl (ok_pickT rfl rfl rfl) ?_
          refine ent_nil ?_
          exact ent_rep ⟨rfl, rfl, rfl, rfl, rfl, rfl, rfl, slot_bool (dq_T rfl (Or.inl (Or.inl (Or.inl (Or.inl (Or.inl (Or.inl (Or.inl hg108)))))))), trivial⟩ rfl
      refine ent_k hK16 ?_
      refine ent_condD rfl (fun h148 => ?_) (fun h148 => ?_)
      · exact absurd h148 (by rintro (((((((g | g) | g) | g) | g) | g) | g) | g) <;> first | exact g zu | exact g zv | exact g zs | exact g zw2 | (refine g ?_; first | (rw [eu]; omega) | (rw [ev]; omega) | (rw [es]; omega) | (rw [lW]; omega)))
      · refine ent_skip ?_
        refine ent_k hK15 ?_
        refine ent_seq fun K17 hK17 => ?_
        refine ent_seq fun K18 hK18 => ?_
        refine ent_draw 23 mixed (by kernel_rfl) (by kernel_rfl) (by kernel_rfl) ?_
        refine dw_o rfl (ok_move rfl) ?_
        refine dw_o rfl (ok_index [] sl42 rfl rfl (by omega) (by omega)) ?_
        refine dw_o rfl (ok_load ti22 rfl) ?_
        refine dw_o rfl (ok_len rfl Try.runUnderlying22 rfl) ?_
        refine dw_o rfl (ok_fieldAddrEx Try.runUnderlying27 rfl Try.sizeOf25 (by decide) rfl) ?_
        refine dw_o rfl (ok_loadB (k := 0) Try.isAgg25 rfl rfl rfl) ?_
        refine dw_o rfl (ok_index [] sl25 rfl rfl (by omega) (by omega)) ?_
        refine dw_o rfl (ok_load ti42 rfl) ?_
        refine dw_o rfl (ok_len rfl Try.runUnderlying42 rfl) ?_
        refine dw_o rfl (ok_neq rfl rfl) ?_
        refine dw_o rfl (ok_move rfl) ?_
        refine dw_guardDf rfl rfl rfl rfl (fun hg159 => ?_) (fun hg159 => ?_)
        · refine dw_o rfl (ok_move rfl) ?_
          refine dw_guardT rfl rfl rfl rfl (decide_eq_false hg159) ?_
          refine dw_o rfl (ok_sliceTo sl42 rfl rfl (by omega) (by omega)) ?_
          refine dw_guardT rfl rfl rfl rfl (decide_eq_false hg159) ?_
          refine dw_o rfl (ok_call (rWeight_ok (List.take (1 : Int).toNat (c.encE ([List.replicate ((↑c.Gen.length : Int)).toNat 0] ++ u))) (by rw [htk]; simp) (by rw [htk]; intro r hr; rw [List.mem_singleton] at hr; rw [hr, List.length_replicate]; omega)) rfl) ?_
          refine dw_guardT rfl rfl rfl rfl (decide_eq_false hg159) ?_
          refine dw_o rfl (ok_neq rfl rfl) ?_
          refine dw_o rfl (ok_pickF rfl (decide_eq_false hg159) rfl) ?_
          refine dw_o rfl (ok_move rfl) ?_
          refine dw_guardDf rfl rfl rfl rfl (fun hg165 => ?_) (fun hg165 => ?_)
          · refine dw_o rfl (ok_move rfl) ?_
            refine dw_guardT rfl rfl rfl rfl (decide_eq_false hg165) ?_
            refine dw_o rfl (ok_sliceFrom sl42 rfl rfl (by omega) (by omega)) ?_
            refine dw_guardT rfl rfl rfl rfl (decide_eq_false hg165) ?_
            refine dw_o rfl (ok_move rfl) ?_
            refine dw_guardT rfl rfl rfl rfl (decide_eq_false hg165) ?_
            refine dw_o rfl (ok_call (SameRows_ok (List.drop (1 : Int).toNat (c.encE ([List.replicate ((↑c.Gen.length : Int)).toNat 0] ++ u))) (c.encE u)) rfl) ?_
            refine dw_guardT rfl rfl rfl rfl (decide_eq_false hg165) ?_
            refine dw_o rfl (ok_notD rfl) ?_
            refine dw_o rfl (ok_pickF rfl (decide_eq_false hg165) rfl) ?_
            refine dw_nil ?_
            refine ent_nil ?_
            refine ent_k hK18 ?_
            refine ent_condD rfl (fun h171 => ?_) (fun h171 => ?_)
            · exact absurd (hdr.trans eu.symm) h171
            · refine ent_skip ?_
              refine ent_k hK17 ?_
              refine ent_seq fun K19 hK19 => ?_
              refine ent_seq fun K20 hK20 => ?_
              refine ent_region ?_
              refine ent_o rfl (ok_assign rfl) ?_
              refine ent_nil ?_
              refine ent_k hK20 ?_
              refine ent_block ?_
              refine ent_loop (fun (i : Int) => (⟨[(1, aSl 1 false aInts u), (3, aInt a), (4, aEx (.pointer (some ⟨b4_1, 0, none⟩))), (11, aSl 1 false aInts (c.encE u)), (13, aSl 1 false aInts (c.encE v)), (15, aSl 1 false aInts (c.encE (mapR (fun tt => addToL c.F (ix [] u tt) (inF c.F a) (ix [] v tt)) t))), (19, aInt i)], [oBox b4_1 27 [aInt c.F.P, aInt c.F.M, aSl 1 false aInt c.F.mod, aSl 1 false aRows c.Gen]]⟩ : St)) (fun (i : Int) => (0 ≤ i) ∧ (i ≤ u.length)) (fun (i : Int) => (u.length - i).toNat) 0 ⟨(by first | rfl | assumption | omega | (simp_all; done) | grind), (by first | rfl | assumption | omega | (simp_all; done) | grind)⟩ (ent_rep ⟨rfl, rfl, rfl, rfl, rfl, rfl, slot_av (av_int (show 0 = (0 : Int) by first | rfl | assumption | omega | (simp_all; done) | grind)), trivial⟩ rfl) ?_
              rintro i ⟨i0, i1⟩
              show Ent _ (⟨[(1, aSl 1 false aInts u), (3, aInt a), (4, aEx (.pointer (some ⟨b4_1, 0, none⟩))), (11, aSl 1 false aInts (c.encE u)), (13, aSl 1 false aInts (c.encE v)), (15, aSl 1 false aInts (c.encE (mapR (fun tt => addToL c.F (ix [] u tt) (inF c.F a) (ix [] v tt)) t))), (19, aInt i)], [oBox b4_1 27 [aInt c.F.P, aInt c.F.M, aSl 1 false aInt c.F.mod, aSl 1 false aRows c.Gen]]⟩ : St) _
              refine ent_seq fun K21 hK21 => ?_
              refine ent_seq fun K22 hK22 => ?_
              refine ent_region ?_
              refine ent_o rfl (ok_move rfl) ?_
              refine ent_o rfl (ok_move rfl) ?_
              refine ent_o rfl (ok_len rfl Try.runUnderlying42 rfl) ?_
              refine ent_o rfl (ok_lss rfl rfl) ?_
              refine ent_nil ?_
              refine ent_k hK22 ?_
              refine ent_condD rfl (fun h175 => ?_) (fun h175 => ?_)
              · have ru : ix [] (c.encE u) i = c.refR u i := by rw [eu, Cnv.encL_eq hOk hu]; exact ix_mapR [] _ i0 h175
                have rv : ix [] (c.encE v) i = c.refR v i := by rw [ev, Cnv.encL_eq hOk hv]; exact ix_mapR [] _ i0 (by omega)
                have rs : ix [] (c.encE (mapR (fun tt => addToL c.F (ix [] u tt) (inF c.F a) (ix [] v tt)) t)) i = c.refR (Cnv.addU c.F u (inF c.F a) v) i := by rw [es, Cnv.encL_eq hOk hs]; exact ix_mapR [] _ i0 (by omega)
                have lru : ((ix [] (c.encE u) i).length : Int) = c.n := by rw [ru]; unfold Cnv.refR; rw [length_mapR]; omega
                have lrv : ((ix [] (c.encE v) i).length : Int) = c.n := by rw [rv]; unfold Cnv.refR; rw [length_mapR]; omega
                refine ent_skip ?_
                refine ent_k hK21 ?_
                refine ent_seq fun K23 hK23 => ?_
                refine ent_block ?_
                refine ent_seq fun K24 hK24 => ?_
                refine ent_cut (⟨[(1, aSl 1 false aInts u), (3, aInt a), (4, aEx (.pointer (some ⟨b4_1, 0, none⟩))), (11, aSl 1 false aInts (c.encE u)), (13, aSl 1 false aInts (c.encE v)), (15, aSl 1 false aInts (c.encE (mapR (fun tt => addToL c.F (ix [] u tt) (inF c.F a) (ix [] v tt)) t))), (19, aInt i), (211, aBool (decide (((↑(ix [] (c.encE v) i).length : Int) ≠ (↑(ix [] (c.encE u) i).length : Int)) ∨ (¬ ((ix [] (c.encE (mapR (fun tt => addToL c.F (ix [] u tt) (inF c.F a) (ix [] v tt)) t)) i) = (addToL c.F (ix [] (c.encE u) i) (inF c.F a) (ix [] (c.encE v) i)))))))], [oBox b4_1 27 [aInt c.F.P, aInt c.F.M, aSl 1 false aInt c.F.mod, aSl 1 false aRows c.Gen]]⟩) ?_ ?_
                · refine ent_draw 34 mixed (by kernel_rfl) (by kernel_rfl) (by kernel_rfl) ?_
                  refine dw_o rfl (ok_move rfl) ?_
                  refine dw_o rfl (ok_move rfl) ?_
                  refine dw_o rfl (ok_index [] sl42 rfl rfl (by omega) (by omega)) ?_
                  refine dw_o rfl (ok_load ti22 rfl) ?_
                  refine dw_o rfl (ok_len rfl Try.runUnderlying22 rfl) ?_
                  refine dw_o rfl (ok_move rfl) ?_
                  refine dw_o rfl (ok_move rfl) ?_
                  refine dw_o rfl (ok_index [] sl42 rfl rfl (by omega) (by omega)) ?_
                  refine dw_o rfl (ok_load ti22 rfl) ?_
                  refine dw_o rfl (ok_len rfl Try.runUnderlying22 rfl) ?_
                  refine dw_o rfl (ok_neq rfl rfl) ?_
                  refine dw_o rfl (ok_move rfl) ?_
                  refine dw_guardDf rfl rfl rfl rfl (fun hg189 => ?_) (fun hg189 => ?_)
                  · refine dw_o rfl (ok_move rfl) ?_
                    refine dw_guardT rfl rfl rfl rfl (decide_eq_false hg189) ?_
                    refine dw_o rfl (ok_move rfl) ?_
                    refine dw_guardT rfl rfl rfl rfl (decide_eq_false hg189) ?_
                    refine dw_o rfl (ok_index [] sl42 rfl rfl (by omega) (by omega)) ?_
                    refine dw_guardT rfl rfl rfl rfl (decide_eq_false hg189) ?_
                    refine dw_o rfl (ok_load ti22 rfl) ?_
                    refine dw_guardT rfl rfl rfl rfl (decide_eq_false hg189) ?_
                    refine dw_o rfl (ok_fieldAddrEx Try.runUnderlying27 rfl Try.sizeOf24 (by decide) rfl) ?_
                    refine dw_guardT rfl rfl rfl rfl (decide_eq_false hg189) ?_
                    refine dw_o rfl (ok_loadBS (k := 0) ti24 rfl rfl rfl) ?_
                    refine dw_guardT rfl rfl rfl rfl (decide_eq_false hg189) ?_
                    refine dw_o rfl (ok_move rfl) ?_
                    refine dw_guardT rfl rfl rfl rfl (decide_eq_false hg189) ?_
                    refine dw_o rfl (ok_move rfl) ?_
                    refine dw_guardT rfl rfl rfl rfl (decide_eq_false hg189) ?_
                    refine dw_o rfl (ok_index [] sl42 rfl rfl (by omega) (by omega)) ?_
                    refine dw_guardT rfl rfl rfl rfl (decide_eq_false hg189) ?_
                    refine dw_o rfl (ok_load ti22 rfl) ?_
                    refine dw_guardT rfl rfl rfl rfl (decide_eq_false hg189) ?_
                    refine dw_o rfl (ok_fieldAddrEx Try.runUnderlying27 rfl Try.sizeOf24 (by decide) rfl) ?_
                    refine dw_guardT rfl rfl rfl rfl (decide_eq_false hg189) ?_
                    refine dw_o rfl (ok_loadBS (k := 0) ti24 rfl rfl rfl) ?_
                    refine dw_guardT rfl rfl rfl rfl (decide_eq_false hg189) ?_
                    refine dw_o rfl (ok_move rfl) ?_
                    refine dw_guardT rfl rfl rfl rfl (decide_eq_false hg189) ?_
                    refine dw_o rfl (ok_call (rIn_ok c.F a) rfl) ?_
                    refine dw_guardT rfl rfl rfl rfl (decide_eq_false hg189) ?_
                    refine dw_o rfl (ok_move rfl) ?_
                    refine dw_guardT rfl rfl rfl rfl (decide_eq_false hg189) ?_
                    refine dw_o rfl (ok_move rfl) ?_
                    refine dw_guardT rfl rfl rfl rfl (decide_eq_false hg189) ?_
                    refine dw_o rfl (ok_index [] sl42 rfl rfl (by omega) (by omega)) ?_
                    refine dw_guardT rfl rfl rfl rfl (decide_eq_false hg189) ?_
                    refine dw_o rfl (ok_load ti22 rfl) ?_
                    refine dw_guardT rfl rfl rfl rfl (decide_eq_false hg189) ?_
                    refine dw_o rfl (ok_call (rAddTo_ok c.F (ix [] (c.encE u) i) (inF c.F a) (ix [] (c.encE v) i) (by first | rfl | assumption | omega | (simp_all; done) | grind) (by first | rfl | assumption | omega | (simp_all; done) | grind) (by first | rfl | assumption | omega | (simp_all; done) | grind)) rfl) ?_
                    refine dw_guardT rfl rfl rfl rfl (decide_eq_false hg189) ?_
                    refine dw_o rfl (ok_call (SameInts_ok (ix [] (c.encE (mapR (fun tt => addToL c.F (ix [] u tt) (inF c.F a) (ix [] v tt)) t)) i) (addToL c.F (ix [] (c.encE u) i) (inF c.F a) (ix [] (c.encE v) i))) rfl) ?_
                    refine dw_guardT rfl rfl rfl rfl (decide_eq_false hg189) ?_
                    refine dw_o rfl (ok_notD rfl) ?_
                    refine dw_o rfl (ok_pickF rfl (decide_eq_false hg189) rfl) ?_
                    refine dw_nil ?_
                    refine ent_nil ?_
                    exact ent_rep ⟨rfl, rfl, rfl, rfl, rfl, rfl, rfl, slot_bool (dq_Q ((or_iff_right hg189).trans Iff.rfl)), trivial⟩ rfl
                  · refine dw_guardF rfl rfl rfl rfl (decide_eq_true hg189) ?_
                    refine dw_guardF rfl rfl rfl rfl (decide_eq_true hg189) ?_
                    refine dw_guardF rfl rfl rfl rfl (decide_eq_true hg189) ?_
                    refine dw_guardF rfl rfl rfl rfl (decide_eq_true hg189) ?_
                    refine dw_guardF rfl rfl rfl rfl (decide_eq_true hg189) ?_
                    refine dw_guardF rfl rfl rfl rfl (decide_eq_true hg189) ?_
                    refine dw_guardF rfl rfl rfl rfl (decide_eq_true hg189) ?_
                    refine dw_guardF rfl rfl rfl rfl (decide_eq_true hg189) ?_
                    refine dw_guardF rfl rfl rfl rfl (decide_eq_true hg189) ?_
                    refine dw_guardF rfl rfl rfl rfl (decide_eq_true hg189) ?_
                    refine dw_guardF rfl rfl rfl rfl (decide_eq_true hg189) ?_
                    refine dw_guardF rfl rfl rfl rfl (decide_eq_true hg189) ?_
                    refine dw_guardF rfl rfl rfl rfl (decide_eq_true hg189) ?_
                    refine dw_guardF rfl rfl rfl rfl (decide_eq_true hg189) ?_
                    refine dw_guardF rfl rfl rfl rfl (decide_eq_true hg189) ?_
                    refine dw_guardF rfl rfl rfl rfl (decide_eq_true hg189) ?_
                    refine dw_guardF rfl rfl rfl rfl (decide_eq_true hg189) ?_
                    refine dw_guardF rfl rfl rfl rfl (decide_eq_true hg189) ?_
                    refine dw_guardF rfl rfl rfl rfl (decide_eq_true hg189) ?_
                    refine dw_guardF rfl rfl rfl rfl (decide_eq_true hg189) ?_
                    refine dw_o rfl (ok_pickT rfl (decide_eq_true hg189) rfl) ?_
                    refine dw_nil ?_
                    refine ent_nil ?_
                    exact ent_rep ⟨rfl, rfl, rfl, rfl, rfl, rfl, rfl, slot_bool (dq_T rfl (Or.inl hg189)), trivial⟩ rfl
                refine ent_k hK24 ?_
                refine ent_condD rfl (fun h211 => ?_) (fun h211 => ?_)
                · exact absurd h211 (by rintro (g | g); exact g (by omega); exact g (by rw [ru, rv, rs]; exact Cnv.refR_add hOk.fld huv hu hv i0 h175))
                · refine ent_skip ?_
                  refine ent_k hK23 ?_
                  refine ent_region ?_
                  refine ent_o rfl (ok_move rfl) ?_
                  refine ent_o rfl (ok_add rfl rfl (by omega) (by omega)) ?_
                  refine ent_o rfl (ok_assign rfl) ?_
                  refine ent_nil ?_
                  refine ent_again (s := (i)) (i + 1) ⟨(by first | rfl | assumption | omega | (simp_all; done) | grind), (by first | rfl | assumption | omega | (simp_all; done) | grind)⟩ (by first | omega | (dsimp only; omega)) (ent_rep ⟨rfl, rfl, rfl, rfl, rfl, rfl, rfl, trivial⟩ rfl)
              · refine ent_exit ?_
                refine ent_k hK19 ?_
                refine ent_seq fun K25 hK25 => ?_
                refine ent_region ?_
                refine ent_o rfl (ok_assign rfl) ?_
                refine ent_nil ?_
                refine ent_k hK25 ?_
                refine ent_ret ?_
                exact retR1 (.inr rfl) Try.results6 (resr_tmp (res_cv rfl (cv_bool (by first | rfl | (exfalso; first | exact hg159 (by rw [hix0, List.length_replicate]; omega) | exact hg165 (by rw [htk, wtL_single]; exact wt1_replicate _) | exact h171 (by rw [hdr, eu]) | assumption)))))
          · refine dw_guardF rfl rfl rfl rfl (decide_eq_true hg165) ?_
            refine dw_guardF rfl rfl rfl rfl (decide_eq_true hg165) ?_
            refine dw_guardF rfl rfl rfl rfl (decide_eq_true hg165) ?_
            refine dw_guardF rfl rfl rfl rfl (decide_eq_true hg165) ?_
            refine dw_o rfl (ok_pickT rfl (decide_eq_true hg165) rfl) ?_
            refine dw_nil ?_
            refine ent_nil ?_
            refine ent_k hK18 ?_
            refine ent_condT rfl ?_
            refine ent_seq fun K26 hK26 => ?_
            refine ent_region ?_
            refine ent_o rfl (ok_assign rfl) ?_
            refine ent_nil ?_
            refine ent_k hK26 ?_
            refine ent_ret ?_
            exact retR1 (.inr rfl) Try.results6 (resr_tmp (res_cv rfl (cv_bool (by first | rfl | (exfalso; first | exact hg159 (by rw [hix0, List.length_replicate]; omega) | exact hg165 (by rw [htk, wtL_single]; exact wt1_replicate _) | exact h171 (by rw [hdr, eu]) | assumption)))))
        · refine dw_guardF rfl rfl rfl rfl (decide_eq_true hg159) ?_
          refine dw_guardF rfl rfl rfl rfl (decide_eq_true hg159) ?_
          refine dw_guardF rfl rfl rfl rfl (decide_eq_true hg159) ?_
          refine dw_o rfl (ok_pickT rfl (decide_eq_true hg159) rfl) ?_
          refine dw_o rfl (ok_move rfl) ?_
          refine dw_guardF rfl rfl rfl rfl rfl ?_
          refine dw_guardF rfl rfl rfl rfl rfl ?_
          refine dw_guardF rfl rfl rfl rfl rfl ?_
          refine dw_guardF rfl rfl rfl rfl rfl ?_
          refine dw_guardF rfl rfl rfl rfl rfl ?_
          refine dw_o rfl (ok_pickT rfl rfl rfl) ?_
          refine dw_nil ?_
          refine ent_nil ?_
          refine ent_k hK18 ?_
          refine ent_condT rfl ?_
          refine ent_seq fun K27 hK27 => ?_
          refine ent_region ?_
          refine ent_o rfl (ok_assign rfl) ?_
          refine ent_nil ?_
          refine ent_k hK27 ?_
          refine ent_ret ?_
          exact retR1 (.inr rfl) Try.results6 (resr_tmp (res_cv rfl (cv_bool (by first | rfl | (exfalso; first | exact hg159 (by rw [hix0, List.length_replicate]; omega) | exact hg165 (by rw [htk, wtL_single]; exact wt1_replicate _) | exact h171 (by rw [hdr, eu]) | assumption)))))
end Go.Proofs.Ytfjhbdfgbpcchaa
