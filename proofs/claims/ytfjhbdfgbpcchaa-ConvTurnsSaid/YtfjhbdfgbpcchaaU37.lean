/-
  Facts for the law ConvTurns.
-/
import Derived.Test.YtfjhbdfgbpcchaaU36
open Go Go.Cw
namespace Go.Proofs.Ytfjhbdfgbpcchaa
open Try
set_option maxRecDepth 100000
set_option linter.unusedVariables false
set_option linter.unusedSimpArgs false
set_option maxHeartbeats 1000000 in
theorem ConvTurns_walk (c : Cnv) (us : List (List Int)) (msg : List Int)  : Ctr Try.prog 15 [aCnv c, aSl 1 false aInts us, aSl 1 false aInt msg] (aBool true) := by
 refine ctr_of Try.call15 func15 rfl rfl ?_
 intro w O
 refine A_f 0 2 rfl rfl (fun hlen0_2 => ?_)
 refine A_f 0 3 rfl rfl (fun hlen0_3 => ?_)
 refine ent_len 1 rfl (fun hlen1 => ?_)
 refine ent_len 2 rfl (fun hlen2 => ?_)
 refine esr rfl fun _ K1 => ?_
 refine A_o rfl rfl (AllOne.mem ⟨(A_M _), (A_M _), A_i, A_i, trivial⟩) (fun b3_1 => ?_)
 refine emm rfl ?_
 refine enk K1 ?_
 refine A_C fun _ K2 => ?_
 refine A_C fun _ K3 => ?_
 refine ent_cut (⟨[(1, aSl 1 false aInts us), (2, aSl 1 false aInt msg), (3, aEx (.pointer (some ⟨b3_1, 0, none⟩))), (43, aBool (decide ((((¬ c.Short) \/ (c.err ≠ 0)) \/ ((c.stepsErr us) ≠ 0)) \/ ((c.tB (↑us.length : Int) (us.length + c.mem)) ≠ 0))))], [oBox b3_1 27 [aInt c.F.P, aInt c.F.M, aSl 1 false aInt c.F.mod, aSl 1 false aRows c.Gen]]⟩) ?_ ?_
 ·refine A_u 23 mixed (by kernel_rfl) (by kernel_rfl) (by kernel_rfl) ?_
  refine dw_o rfl (A_V (k := 0) ti27 rfl rfl rfl) ?_
  refine dw_o rfl (A_Y (few_ok c) rfl) ?_
  refine dw_o rfl (ok_notD rfl) ?_
  refine dw_o rfl (A_K rfl) ?_
  refine dw_guardDf rfl rfl rfl rfl (fun hg24 => ?_) (fun hg24 => ?_)
  ·have hFewg := (Classical.not_not.1 hg24).1
   refine dw_o rfl (A_V (k := 0) ti27 rfl rfl rfl) ?_
   refine A_d rfl rfl rfl rfl (decide_eq_false hg24) ?_
   refine dw_o rfl (A_Y (rCnvCheck_ok c hFewg) rfl) ?_
   refine A_d rfl rfl rfl rfl (decide_eq_false hg24) ?_
   refine dw_o rfl (ok_neq rfl rfl) ?_
   refine dw_o rfl (A_t rfl (decide_eq_false hg24) rfl) ?_
   refine dw_o rfl (A_K rfl) ?_
   refine dw_guardDf rfl rfl rfl rfl (fun hg29 => ?_) (fun hg29 => ?_)
   ·refine dw_o rfl (A_V (k := 0) ti27 rfl rfl rfl) ?_
    refine A_d rfl rfl rfl rfl (decide_eq_false hg29) ?_
    refine dw_o rfl (A_K rfl) ?_
    refine A_d rfl rfl rfl rfl (decide_eq_false hg29) ?_
    refine dw_o rfl (A_Y (rSteps_ok c us) rfl) ?_
    refine A_d rfl rfl rfl rfl (decide_eq_false hg29) ?_
    refine dw_o rfl (ok_neq rfl rfl) ?_
    refine dw_o rfl (A_t rfl (decide_eq_false hg29) rfl) ?_
    refine dw_o rfl (A_K rfl) ?_
    refine dw_guardDf rfl rfl rfl rfl (fun hg35 => ?_) (fun hg35 => ?_)
    ·have hOkg : c.Ok := by
        by_cases g : c.err = 0
        ·exact Cnv.err_zero.1 g
        first | exact absurd g hg29 | exact absurd (Or.inr g) hg29
     have hmng : 0 <= c.mem := c.maxD_nonneg c.Gen.length
     have hm4g := hFewg.mem_le
     refine dw_o rfl (A_V (k := 0) ti27 rfl rfl rfl) ?_
     refine A_d rfl rfl rfl rfl (decide_eq_false hg35) ?_
     refine dw_o rfl (A_K rfl) ?_
     refine A_d rfl rfl rfl rfl (decide_eq_false hg35) ?_
     refine dw_o rfl (A_l rfl runUnderlying42 rfl) ?_
     refine A_d rfl rfl rfl rfl (decide_eq_false hg35) ?_
     refine dw_o rfl (A_V (k := 0) ti27 rfl rfl rfl) ?_
     refine A_d rfl rfl rfl rfl (decide_eq_false hg35) ?_
     refine dw_o rfl (A_Y (rMemory_ok c hFewg) rfl) ?_
     refine A_d rfl rfl rfl rfl (decide_eq_false hg35) ?_
     refine dw_o rfl (A_Y (rBlocks_ok c (↑us.length : Int) c.mem (us.length + c.mem) hOkg hmng (by omega) rfl) rfl) ?_
     refine A_d rfl rfl rfl rfl (decide_eq_false hg35) ?_
     refine dw_o rfl (ok_neq rfl rfl) ?_
     refine dw_o rfl (A_t rfl (decide_eq_false hg35) rfl) ?_
     refine dw_nil ?_
     refine A_O ?_
     exact A_G ⟨rfl, rfl, rfl, A_U (dq_Q ((or_iff_right (fun h => h.elim (fun h => h.elim hg24 hg29) hg35)).trans Iff.rfl)), trivial⟩ rfl
    refine A_R rfl rfl rfl rfl (decide_eq_true hg35) ?_
    refine A_R rfl rfl rfl rfl (decide_eq_true hg35) ?_
    refine A_R rfl rfl rfl rfl (decide_eq_true hg35) ?_
    refine A_R rfl rfl rfl rfl (decide_eq_true hg35) ?_
    refine A_R rfl rfl rfl rfl (decide_eq_true hg35) ?_
    refine A_R rfl rfl rfl rfl (decide_eq_true hg35) ?_
    refine dw_o rfl (A_h rfl (decide_eq_true hg35) rfl) ?_
    refine dw_nil ?_
    refine A_O ?_
    exact A_G ⟨rfl, rfl, rfl, A_U (dq_T rfl (Or.inl (Or.inr hg35))), trivial⟩ rfl
   refine A_R rfl rfl rfl rfl (decide_eq_true hg29) ?_
   refine A_R rfl rfl rfl rfl (decide_eq_true hg29) ?_
   refine A_R rfl rfl rfl rfl (decide_eq_true hg29) ?_
   refine dw_o rfl (A_h rfl (decide_eq_true hg29) rfl) ?_
   refine dw_o rfl (A_K rfl) ?_
   refine A_R rfl rfl rfl rfl rfl ?_
   refine A_R rfl rfl rfl rfl rfl ?_
   refine A_R rfl rfl rfl rfl rfl ?_
   refine A_R rfl rfl rfl rfl rfl ?_
   refine A_R rfl rfl rfl rfl rfl ?_
   refine A_R rfl rfl rfl rfl rfl ?_
   refine A_R rfl rfl rfl rfl rfl ?_
   refine dw_o rfl (A_h rfl rfl rfl) ?_
   refine dw_nil ?_
   refine A_O ?_
   exact A_G ⟨rfl, rfl, rfl, A_U (dq_T rfl (Or.inl (Or.inl (Or.inr hg29)))), trivial⟩ rfl
  refine A_R rfl rfl rfl rfl (decide_eq_true hg24) ?_
  refine A_R rfl rfl rfl rfl (decide_eq_true hg24) ?_
  refine dw_o rfl (A_h rfl (decide_eq_true hg24) rfl) ?_
  refine dw_o rfl (A_K rfl) ?_
  refine A_R rfl rfl rfl rfl rfl ?_
  refine A_R rfl rfl rfl rfl rfl ?_
  refine A_R rfl rfl rfl rfl rfl ?_
  refine A_R rfl rfl rfl rfl rfl ?_
  refine dw_o rfl (A_h rfl rfl rfl) ?_
  refine dw_o rfl (A_K rfl) ?_
  refine A_R rfl rfl rfl rfl rfl ?_
  refine A_R rfl rfl rfl rfl rfl ?_
  refine A_R rfl rfl rfl rfl rfl ?_
  refine A_R rfl rfl rfl rfl rfl ?_
  refine A_R rfl rfl rfl rfl rfl ?_
  refine A_R rfl rfl rfl rfl rfl ?_
  refine A_R rfl rfl rfl rfl rfl ?_
  refine dw_o rfl (A_h rfl rfl rfl) ?_
  refine dw_nil ?_
  refine A_O ?_
  exact A_G ⟨rfl, rfl, rfl, A_U (dq_T rfl (Or.inl (Or.inl (Or.inl hg24)))), trivial⟩ rfl
 refine A_s K3 ?_
 refine A_F rfl (fun h43 => ?_) (fun h43 => ?_)
 ·refine esk rfl ?_
  refine A_S ?_
  exact retR1 (.inr rfl) results15 (A_N (A_W rfl (cv_bool (by rfl))))
 have hFew : c.Few := by by_cases g : c.Short; exact g.1; exact absurd (.inl (.inl (.inl g))) h43
 have h0 : c.err = 0 := by by_cases g : c.err = 0; exact g; exact absurd (.inl (.inl (.inr g))) h43
 have hOk := Cnv.err_zero.1 h0
 have hG : c.GoodU us := by by_cases g : c.stepsErr us = 0; exact Cnv.stepsErr_zero.1 g; exact absurd (.inl (.inr g)) h43
 have hz1 : c.tB us.length (us.length + c.mem) = 0 := by by_cases g : c.tB us.length (us.length + c.mem) = 0; exact g; exact absurd (.inr g) h43
 have he1 : c.tE us.length (us.length + c.mem) = 0 := (Cnv.tE_tB h0).trans hz1
 have ht1 := Cnv.tE_zero he1
 have hmn : 0 <= c.mem := c.maxD_nonneg c.Gen.length
 have hm4 := hFew.mem_le
 have hkn := hOk.kn
 have hnl := hOk.len
 have hgk : c.k = (c.Gen.length : Int) := rfl
 have hen : c.n = ((ix [] c.Gen 0).length : Int) := rfl
 have hn2 : c.n * (us.length : Int) <= c.n * (us.length + c.mem) := Int.mul_le_mul_of_nonneg_left (by omega) (by omega)
 have he2 : c.tE us.length us.length = 0 := Cnv.tE_ok h0 (by omega) (by omega)
 have hr1 := Cnv.tR_ok he1
 have hr2 := Cnv.tR_ok he2
 have hk1 : COk (c.tR us.length (us.length + c.mem)) := by rw [hr1]; exact Cnv.tC_ok hOk (by omega) ht1.2.2.2
 have hk2 : COk (c.tR us.length us.length) := by rw [hr2]; exact Cnv.tC_ok hOk (by omega) (by omega)
 have hN2 : (c.tR us.length us.length).N = c.n * (us.length : Int) := by rw [hr2]; rfl
 have hmm : ((ix [] c.Gen 0).length : Int) * (us.length : Int) = c.n * (us.length : Int) := by rw [<- hen]
 have hns : c.n * 1 <= c.n * (us.length : Int) := Int.mul_le_mul_of_nonneg_left (by omega) (by omega)
 have hq := hOk.fld.1.bd.2.2.2.2.2.1
 refine esp K2 ?_
 refine esr rfl fun _ K5 => ?_
 refine A_A rfl (A_B runUnderlying27 rfl sizeOf25 (by decide) rfl) ?_
 refine A_A rfl (A_L (k := 0) isAgg25 rfl rfl rfl) ?_
 refine A_A rfl (A_X [] sl25 rfl rfl (by omega) (by omega)) ?_
 refine A_A rfl (A_Q ti42 rfl) ?_
 refine A_A rfl (A_l rfl runUnderlying42 rfl) ?_
 refine emm rfl ?_
 refine enk K5 ?_
 refine esr rfl fun _ K6 => ?_
 refine A_A rfl (A_V (k := 0) ti27 rfl rfl rfl) ?_
 refine emm rfl ?_
 refine A_A rfl (A_l rfl runUnderlying42 rfl) ?_
 refine A_A rfl (A_Y (TailBiting_ok c (↑us.length : Int) hFew) rfl) ?_
 refine emm rfl ?_
 refine A_A rfl (A_e rfl rfl) ?_
 refine A_A rfl (A_e rfl rfl) ?_
 refine ent_alloc (z := .agg #[.int .i64 0, .int .i64 0, .slice none 0 0, .int .i64 0, .slice none 0 0]) [aInt 0, aInt 0, aEx (.slice none 0 0), aInt 0, aEx (.slice none 0 0)] rfl zv69 rfl zc69 (fun b8_2 => ?_)
 refine ent_storeBS (k := 0) sizeOf69 rfl rfl rfl (AllOne.mem ⟨(A_M _), (A_M _), A_i, (A_M _), A_i, trivial⟩) rfl rfl ?_
 show Ent _ ⟨_, [_, _]⟩ _
 refine emm rfl ?_
 refine enk K6 ?_
 refine esr rfl fun _ K7 => ?_
 refine A_A rfl (A_V (k := 1) ti27 rfl rfl rfl) ?_
 refine emm rfl ?_
 refine A_A rfl (A_l rfl runUnderlying42 rfl) ?_
 refine A_A rfl (A_Y (Terminated_ok c (↑us.length : Int) hFew) rfl) ?_
 refine emm rfl ?_
 refine A_A rfl (A_e rfl rfl) ?_
 refine A_A rfl (A_e rfl rfl) ?_
 refine ent_alloc (z := .agg #[.int .i64 0, .int .i64 0, .slice none 0 0, .int .i64 0, .slice none 0 0]) [aInt 0, aInt 0, aEx (.slice none 0 0), aInt 0, aEx (.slice none 0 0)] rfl zv69 rfl zc69 (fun b10_3 => ?_)
 refine ent_storeBS (k := 0) sizeOf69 rfl rfl rfl (AllOne.mem ⟨(A_M _), (A_M _), A_i, (A_M _), A_i, trivial⟩) rfl rfl ?_
 show Ent _ ⟨_, [_, _, _]⟩ _
 refine emm rfl ?_
 refine enk K7 ?_
 refine A_C fun _ K8 => ?_
 refine A_C fun _ K9 => ?_
 refine ent_cut (⟨[(1, aSl 1 false aInts us), (2, aSl 1 false aInt msg), (3, aEx (.pointer (some ⟨b3_1, 0, none⟩))), (7, aInt (↑(ix [] c.Gen 0).length : Int)), (8, aEx (.pointer (some ⟨b8_2, 0, none⟩))), (10, aEx (.pointer (some ⟨b10_3, 0, none⟩))), (87, aBool (decide ((((((c.tE (↑us.length : Int) (↑us.length : Int)) ≠ 0) \/ ((c.tE (↑us.length : Int) ((↑us.length : Int) + c.mem)) ≠ 0)) \/ ((codE (c.tR (↑us.length : Int) (↑us.length : Int))) ≠ 0)) \/ (((c.tR (↑us.length : Int) (↑us.length : Int)).N) ≠ ((↑(ix [] c.Gen 0).length : Int) * (↑us.length : Int)))) \/ ((codE (c.tR (↑us.length : Int) ((↑us.length : Int) + c.mem))) ≠ 0))))], [oBox b10_3 69 [aInt ((c.tR (↑us.length : Int) ((↑us.length : Int) + c.mem)).F.P), aInt ((c.tR (↑us.length : Int) ((↑us.length : Int) + c.mem)).F.M), aSl 1 false aInt ((c.tR (↑us.length : Int) ((↑us.length : Int) + c.mem)).F.mod), aInt ((c.tR (↑us.length : Int) ((↑us.length : Int) + c.mem)).N), aSl 1 false aInts ((c.tR (↑us.length : Int) ((↑us.length : Int) + c.mem)).Gen)], oBox b8_2 69 [aInt ((c.tR (↑us.length : Int) (↑us.length : Int)).F.P), aInt ((c.tR (↑us.length : Int) (↑us.length : Int)).F.M), aSl 1 false aInt ((c.tR (↑us.length : Int) (↑us.length : Int)).F.mod), aInt ((c.tR (↑us.length : Int) (↑us.length : Int)).N), aSl 1 false aInts ((c.tR (↑us.length : Int) (↑us.length : Int)).Gen)], oBox b3_1 27 [aInt c.F.P, aInt c.F.M, aSl 1 false aInt c.F.mod, aSl 1 false aRows c.Gen]]⟩) ?_ ?_
 ·refine A_E ?_
  refine emm rfl ?_
  refine A_A rfl (ok_neq rfl rfl) ?_
  refine emm rfl ?_
  refine ent_guardXDf rfl rfl rfl rfl (fun hg65 => ?_) (fun hg65 => ?_)
  ·refine emm rfl ?_
   refine A_I rfl rfl rfl rfl (decide_eq_false hg65) ?_
   refine A_A rfl (ok_neq rfl rfl) ?_
   refine A_A rfl (A_t rfl (decide_eq_false hg65) rfl) ?_
   refine emm rfl ?_
   refine ent_guardXDf rfl rfl rfl rfl (fun hg69 => ?_) (fun hg69 => ?_)
   ·refine A_A rfl (A_V (k := 1) ti69 rfl rfl rfl) ?_
    refine A_I rfl rfl rfl rfl (decide_eq_false hg69) ?_
    refine A_A rfl (A_Y (rcCheck_ok (c.tR (↑us.length : Int) (↑us.length : Int))) rfl) ?_
    refine A_I rfl rfl rfl rfl (decide_eq_false hg69) ?_
    refine A_A rfl (ok_neq rfl rfl) ?_
    refine A_A rfl (A_t rfl (decide_eq_false hg69) rfl) ?_
    refine emm rfl ?_
    refine ent_guardXDf rfl rfl rfl rfl (fun hg74 => ?_) (fun hg74 => ?_)
    ·refine A_A rfl (A_B runUnderlying69 rfl sizeOf3 (by decide) rfl) ?_
     refine A_I rfl rfl rfl rfl (decide_eq_false hg74) ?_
     refine A_A rfl (A_L (k := 1) isAgg3 rfl rfl rfl) ?_
     refine A_I rfl rfl rfl rfl (decide_eq_false hg74) ?_
     refine emm rfl ?_
     refine A_I rfl rfl rfl rfl (decide_eq_false hg74) ?_
     refine emm rfl ?_
     refine A_I rfl rfl rfl rfl (decide_eq_false hg74) ?_
     refine A_A rfl (A_l rfl runUnderlying42 rfl) ?_
     refine A_I rfl rfl rfl rfl (decide_eq_false hg74) ?_
     refine A_A rfl (ok_mul rfl rfl (by omega) (by omega)) ?_
     refine A_I rfl rfl rfl rfl (decide_eq_false hg74) ?_
     refine A_A rfl (ok_neq rfl rfl) ?_
     refine A_A rfl (A_t rfl (decide_eq_false hg74) rfl) ?_
     refine emm rfl ?_
     refine ent_guardXDf rfl rfl rfl rfl (fun hg83 => ?_) (fun hg83 => ?_)
     ·refine A_A rfl (A_V (k := 0) ti69 rfl rfl rfl) ?_
      refine A_I rfl rfl rfl rfl (decide_eq_false hg83) ?_
      refine A_A rfl (A_Y (rcCheck_ok (c.tR (↑us.length : Int) ((↑us.length : Int) + c.mem))) rfl) ?_
      refine A_I rfl rfl rfl rfl (decide_eq_false hg83) ?_
      refine A_A rfl (ok_neq rfl rfl) ?_
      refine A_A rfl (A_t rfl (decide_eq_false hg83) rfl) ?_
      refine A_O ?_
      exact A_G ⟨rfl, rfl, rfl, rfl, rfl, rfl, A_U (dq_Q ((or_iff_right (fun h => h.elim (fun h => h.elim (fun h => h.elim hg65 hg69) hg74) hg83)).trans Iff.rfl)), trivial⟩ rfl
     refine A_D rfl rfl rfl rfl (decide_eq_true hg83) ?_
     refine A_D rfl rfl rfl rfl (decide_eq_true hg83) ?_
     refine A_A rfl (A_h rfl (decide_eq_true hg83) rfl) ?_
     refine A_O ?_
     exact A_G ⟨rfl, rfl, rfl, rfl, rfl, rfl, A_U (dq_T rfl (Or.inl (Or.inr hg83))), trivial⟩ rfl
    refine A_D rfl rfl rfl rfl (decide_eq_true hg74) ?_
    refine A_D rfl rfl rfl rfl (decide_eq_true hg74) ?_
    refine A_D rfl rfl rfl rfl (decide_eq_true hg74) ?_
    refine A_D rfl rfl rfl rfl (decide_eq_true hg74) ?_
    refine A_D rfl rfl rfl rfl (decide_eq_true hg74) ?_
    refine A_D rfl rfl rfl rfl (decide_eq_true hg74) ?_
    refine A_A rfl (A_h rfl (decide_eq_true hg74) rfl) ?_
    refine emm rfl ?_
    refine A_D rfl rfl rfl rfl rfl ?_
    refine A_D rfl rfl rfl rfl rfl ?_
    refine A_D rfl rfl rfl rfl rfl ?_
    refine A_A rfl (A_h rfl rfl rfl) ?_
    refine A_O ?_
    exact A_G ⟨rfl, rfl, rfl, rfl, rfl, rfl, A_U (dq_T rfl (Or.inl (Or.inl (Or.inr hg74)))), trivial⟩ rfl
   refine A_D rfl rfl rfl rfl (decide_eq_true hg69) ?_
   refine A_D rfl rfl rfl rfl (decide_eq_true hg69) ?_
   refine A_A rfl (A_h rfl (decide_eq_true hg69) rfl) ?_
   refine emm rfl ?_
   refine A_D rfl rfl rfl rfl rfl ?_
   refine A_D rfl rfl rfl rfl rfl ?_
   refine A_D rfl rfl rfl rfl rfl ?_
   refine A_D rfl rfl rfl rfl rfl ?_
   refine A_D rfl rfl rfl rfl rfl ?_
   refine A_D rfl rfl rfl rfl rfl ?_
   refine A_D rfl rfl rfl rfl rfl ?_
   refine A_A rfl (A_h rfl rfl rfl) ?_
   refine emm rfl ?_
   refine A_D rfl rfl rfl rfl rfl ?_
   refine A_D rfl rfl rfl rfl rfl ?_
   refine A_D rfl rfl rfl rfl rfl ?_
   refine A_A rfl (A_h rfl rfl rfl) ?_
   refine A_O ?_
   exact A_G ⟨rfl, rfl, rfl, rfl, rfl, rfl, A_U (dq_T rfl (Or.inl (Or.inl (Or.inl (Or.inr hg69))))), trivial⟩ rfl
  refine A_D rfl rfl rfl rfl (decide_eq_true hg65) ?_
  refine A_A rfl (A_h rfl (decide_eq_true hg65) rfl) ?_
  refine emm rfl ?_
  refine A_D rfl rfl rfl rfl rfl ?_
  refine A_D rfl rfl rfl rfl rfl ?_
  refine A_D rfl rfl rfl rfl rfl ?_
  refine A_A rfl (A_h rfl rfl rfl) ?_
  refine emm rfl ?_
  refine A_D rfl rfl rfl rfl rfl ?_
  refine A_D rfl rfl rfl rfl rfl ?_
  refine A_D rfl rfl rfl rfl rfl ?_
  refine A_D rfl rfl rfl rfl rfl ?_
  refine A_D rfl rfl rfl rfl rfl ?_
  refine A_D rfl rfl rfl rfl rfl ?_
  refine A_D rfl rfl rfl rfl rfl ?_
  refine A_A rfl (A_h rfl rfl rfl) ?_
  refine emm rfl ?_
  refine A_D rfl rfl rfl rfl rfl ?_
  refine A_D rfl rfl rfl rfl rfl ?_
  refine A_D rfl rfl rfl rfl rfl ?_
  refine A_A rfl (A_h rfl rfl rfl) ?_
  refine A_O ?_
  exact A_G ⟨rfl, rfl, rfl, rfl, rfl, rfl, A_U (dq_T rfl (Or.inl (Or.inl (Or.inl (Or.inl hg65))))), trivial⟩ rfl
 refine A_s K9 ?_
 refine A_F rfl (fun h87 => ?_) (fun h87 => ?_)
 ·rcases h87 with (((h | h) | h) | h) | h <;> first | exact absurd he2 h | exact absurd he1 h | exact absurd (codE_zero.2 hk2) h | exact absurd (codE_zero.2 hk1) h | exact absurd (by rw [hN2, <- hmm]) h
 refine esp K8 ?_
 refine esr rfl fun _ K10 => ?_
 refine A_A rfl (A_V (k := 1) ti69 rfl rfl rfl) ?_
 refine emm rfl ?_
 refine A_A rfl (A_Y (rOf_ok (c.tR (↑us.length : Int) (↑us.length : Int)) msg hk2) rfl) ?_
 refine emm rfl ?_
 refine enk K10 ?_
 refine A_C fun _ K11 => ?_
 have hlx : (c.tR us.length us.length).Gen.length <= (fillR (fun z => inF (c.tR us.length us.length).F (ix 0 msg z)) 0 (c.tR us.length us.length).Gen.length (min ((c.tR us.length us.length).Gen.length : Int) msg.length)).length := by rw [length_fillR _ 0 (by omega) (by omega)]; omega
 have hth := Cnv.turn_has hOk (S := (us.length : Int)) (by omega) (by omega) hr2 hlx
 have lW := hth.1
 have ldr : (List.drop (((comb (c.tR us.length us.length).F (fillR (fun z => inF (c.tR us.length us.length).F (ix 0 msg z)) 0 (c.tR us.length us.length).Gen.length (min ((c.tR us.length us.length).Gen.length : Int) msg.length)) (c.tR us.length us.length).Gen (c.tR us.length us.length).N).length : Int) - ((ix [] c.Gen 0).length : Int)).toNat (comb (c.tR us.length us.length).F (fillR (fun z => inF (c.tR us.length us.length).F (ix 0 msg z)) 0 (c.tR us.length us.length).Gen.length (min ((c.tR us.length us.length).Gen.length : Int) msg.length)) (c.tR us.length us.length).Gen (c.tR us.length us.length).N)).length = (comb (c.tR us.length us.length).F (fillR (fun z => inF (c.tR us.length us.length).F (ix 0 msg z)) 0 (c.tR us.length us.length).Gen.length (min ((c.tR us.length us.length).Gen.length : Int) msg.length)) (c.tR us.length us.length).Gen (c.tR us.length us.length).N).length - (((comb (c.tR us.length us.length).F (fillR (fun z => inF (c.tR us.length us.length).F (ix 0 msg z)) 0 (c.tR us.length us.length).Gen.length (min ((c.tR us.length us.length).Gen.length : Int) msg.length)) (c.tR us.length us.length).Gen (c.tR us.length us.length).N).length : Int) - ((ix [] c.Gen 0).length : Int)).toNat := List.length_drop
 have ltk : (List.take (((comb (c.tR us.length us.length).F (fillR (fun z => inF (c.tR us.length us.length).F (ix 0 msg z)) 0 (c.tR us.length us.length).Gen.length (min ((c.tR us.length us.length).Gen.length : Int) msg.length)) (c.tR us.length us.length).Gen (c.tR us.length us.length).N).length : Int) - ((ix [] c.Gen 0).length : Int)).toNat (comb (c.tR us.length us.length).F (fillR (fun z => inF (c.tR us.length us.length).F (ix 0 msg z)) 0 (c.tR us.length us.length).Gen.length (min ((c.tR us.length us.length).Gen.length : Int) msg.length)) (c.tR us.length us.length).Gen (c.tR us.length us.length).N)).length = min (((comb (c.tR us.length us.length).F (fillR (fun z => inF (c.tR us.length us.length).F (ix 0 msg z)) 0 (c.tR us.length us.length).Gen.length (min ((c.tR us.length us.length).Gen.length : Int) msg.length)) (c.tR us.length us.length).Gen (c.tR us.length us.length).N).length : Int) - ((ix [] c.Gen 0).length : Int)).toNat (comb (c.tR us.length us.length).F (fillR (fun z => inF (c.tR us.length us.length).F (ix 0 msg z)) 0 (c.tR us.length us.length).Gen.length (min ((c.tR us.length us.length).Gen.length : Int) msg.length)) (c.tR us.length us.length).Gen (c.tR us.length us.length).N).length := List.length_take
 refine ent_drawV1A (e := 3) (enc := aInt) (xs := List.drop ((↑(comb (c.tR (↑us.length : Int) (↑us.length : Int)).F (fillR (fun z => inF (c.tR (↑us.length : Int) (↑us.length : Int)).F (ix 0 msg z)) 0 (c.tR (↑us.length : Int) (↑us.length : Int)).Gen.length (min ((c.tR (↑us.length : Int) (↑us.length : Int)).Gen.length : Int) msg.length)) (c.tR (↑us.length : Int) (↑us.length : Int)).Gen (c.tR (↑us.length : Int) (↑us.length : Int)).N).length : Int) - (↑(ix [] c.Gen 0).length : Int)).toNat (comb (c.tR (↑us.length : Int) (↑us.length : Int)).F (fillR (fun z => inF (c.tR (↑us.length : Int) (↑us.length : Int)).F (ix 0 msg z)) 0 (c.tR (↑us.length : Int) (↑us.length : Int)).Gen.length (min ((c.tR (↑us.length : Int) (↑us.length : Int)).Gen.length : Int) msg.length)) (c.tR (↑us.length : Int) (↑us.length : Int)).Gen (c.tR (↑us.length : Int) (↑us.length : Int)).N)) (ys := List.take ((↑(comb (c.tR (↑us.length : Int) (↑us.length : Int)).F (fillR (fun z => inF (c.tR (↑us.length : Int) (↑us.length : Int)).F (ix 0 msg z)) 0 (c.tR (↑us.length : Int) (↑us.length : Int)).Gen.length (min ((c.tR (↑us.length : Int) (↑us.length : Int)).Gen.length : Int) msg.length)) (c.tR (↑us.length : Int) (↑us.length : Int)).Gen (c.tR (↑us.length : Int) (↑us.length : Int)).N).length : Int) - (↑(ix [] c.Gen 0).length : Int)).toNat (comb (c.tR (↑us.length : Int) (↑us.length : Int)).F (fillR (fun z => inF (c.tR (↑us.length : Int) (↑us.length : Int)).F (ix 0 msg z)) 0 (c.tR (↑us.length : Int) (↑us.length : Int)).Gen.length (min ((c.tR (↑us.length : Int) (↑us.length : Int)).Gen.length : Int) msg.length)) (c.tR (↑us.length : Int) (↑us.length : Int)).Gen (c.tR (↑us.length : Int) (↑us.length : Int)).N)) (dy := 104) 14 [] 98 [] [(1, aSl 1 false aInts us), (3, aEx (.pointer (some ⟨b3_1, 0, none⟩))), (8, aEx (.pointer (some ⟨b8_2, 0, none⟩))), (10, aEx (.pointer (some ⟨b10_3, 0, none⟩)))] mixed (by kernel_rfl) (by kernel_rfl) (by kernel_rfl) (by kernel_rfl) (by kernel_rfl) (fun _ _ _ _ _ h => h) rfl rfl vt22 flat_int (by simp [A_M]) (AllPlS.mem (T := []) trivial) ⟨rfl, rfl, rfl, rfl, trivial⟩ (by kernel_rfl) read_sl (by first | omega | (simp; omega)) (by first | omega | (simp; omega)) (fun w => ?_) (fun ra_4 ca_4 r0 c0 => ?_)
 ·refine dw_o rfl (ok_build0F vt22) ?_
  refine dw_o rfl (A_K rfl) ?_
  refine dw_o rfl (A_K rfl) ?_
  refine dw_o rfl (A_l rfl runUnderlying22 rfl) ?_
  refine dw_o rfl (A_K rfl) ?_
  refine dw_o rfl (ok_sub rfl rfl (by omega) (by omega)) ?_
  refine dw_o rfl (ok_sliceFrom sl22 rfl rfl (by omega) (by omega)) ?_
  refine dw_o rfl (ok_append0F vt22 (fun _ => pl_ex) rfl rfl (cv_id sub_refl) (by omega) (by omega)) ?_
  refine dw_o rfl (A_K rfl) ?_
  refine dw_o rfl (A_K rfl) ?_
  refine dw_o rfl (A_l rfl runUnderlying22 rfl) ?_
  refine dw_o rfl (A_K rfl) ?_
  refine dw_o rfl (ok_sub rfl rfl (by omega) (by omega)) ?_
  refine dw_o rfl (ok_sliceTo sl22 rfl rfl (by omega) (by omega)) ?_
  exact ⟨rfl, rfl, trivial⟩
 refine emm rfl ?_
 refine enk K11 ?_
 refine esr rfl fun _ K12 => ?_
 refine A_A rfl (A_V (k := 2) ti69 rfl rfl rfl) ?_
 refine emm rfl ?_
 refine A_A rfl (ok_callP [0] (by exact pl_tup ⟨pl_ex, pl_ex, trivial⟩) (rHas_ok (c.tR (↑us.length : Int) (↑us.length : Int)) ((List.drop ((↑(comb (c.tR (↑us.length : Int) (↑us.length : Int)).F (fillR (fun z => inF (c.tR (↑us.length : Int) (↑us.length : Int)).F (ix 0 msg z)) 0 (c.tR (↑us.length : Int) (↑us.length : Int)).Gen.length (min ((c.tR (↑us.length : Int) (↑us.length : Int)).Gen.length : Int) msg.length)) (c.tR (↑us.length : Int) (↑us.length : Int)).Gen (c.tR (↑us.length : Int) (↑us.length : Int)).N).length : Int) - (↑(ix [] c.Gen 0).length : Int)).toNat (comb (c.tR (↑us.length : Int) (↑us.length : Int)).F (fillR (fun z => inF (c.tR (↑us.length : Int) (↑us.length : Int)).F (ix 0 msg z)) 0 (c.tR (↑us.length : Int) (↑us.length : Int)).Gen.length (min ((c.tR (↑us.length : Int) (↑us.length : Int)).Gen.length : Int) msg.length)) (c.tR (↑us.length : Int) (↑us.length : Int)).Gen (c.tR (↑us.length : Int) (↑us.length : Int)).N)) ++ (List.take ((↑(comb (c.tR (↑us.length : Int) (↑us.length : Int)).F (fillR (fun z => inF (c.tR (↑us.length : Int) (↑us.length : Int)).F (ix 0 msg z)) 0 (c.tR (↑us.length : Int) (↑us.length : Int)).Gen.length (min ((c.tR (↑us.length : Int) (↑us.length : Int)).Gen.length : Int) msg.length)) (c.tR (↑us.length : Int) (↑us.length : Int)).Gen (c.tR (↑us.length : Int) (↑us.length : Int)).N).length : Int) - (↑(ix [] c.Gen 0).length : Int)).toNat (comb (c.tR (↑us.length : Int) (↑us.length : Int)).F (fillR (fun z => inF (c.tR (↑us.length : Int) (↑us.length : Int)).F (ix 0 msg z)) 0 (c.tR (↑us.length : Int) (↑us.length : Int)).Gen.length (min ((c.tR (↑us.length : Int) (↑us.length : Int)).Gen.length : Int) msg.length)) (c.tR (↑us.length : Int) (↑us.length : Int)).Gen (c.tR (↑us.length : Int) (↑us.length : Int)).N))) hth.2.1 hth.2.2) ⟨arg_a rfl (cv_id (sub_lent _)), arg_a rfl (cv_vec (k := 0) (off_lent rfl (by decide)) (by first | rfl | assumption | (simp; done) | (simp_all; done) | omega) (by first | rfl | assumption | omega | (simp_all; done) | grind)), trivial⟩) ?_
 refine emm rfl ?_
 refine A_A rfl (A_e rfl rfl) ?_
 refine A_A rfl (A_e rfl rfl) ?_
 refine emm rfl ?_
 refine enk K12 ?_
 refine esk rfl ?_
 refine A_C fun _ K14 => ?_
 have hgt := Cnv.GoodU.term hq hG c.mem
 have ltm : (c.term us).length = us.length + c.mem.toNat := Cnv.length_termTo _ _
 have lrl : (c.refL (c.term us)).length = (c.term us).length := by unfold Cnv.refL; rw [A_m]; omega
 have hrow : ∀ z : Int, 0 <= z -> z < ((c.refL (c.term us)).length : Int) -> ((ix [] (c.refL (c.term us)) z).length : Int) = c.n := fun z z0 z1 => by unfold Cnv.refL; rw [ix_mapR [] _ z0 (by omega)]; unfold Cnv.refR; rw [A_m]; omega
 refine A_u 6 mixed (by kernel_rfl) (by kernel_rfl) (by kernel_rfl) ?_
 refine dw_o rfl (A_V (k := 3) ti27 rfl rfl rfl) ?_
 refine dw_o rfl (A_V (k := 3) ti27 rfl rfl rfl) ?_
 refine dw_o rfl (A_K rfl) ?_
 refine dw_o rfl (A_Y (rTerminate_ok c us hFew (by omega)) rfl) ?_
 refine dw_o rfl (A_Y (rEncode_ok c (c.term us) hFew hOk hgt (by omega)) rfl) ?_
 refine dw_o rfl (ok_assign rfl) ?_
 refine dw_nil ?_
 refine enk K14 ?_
 refine A_C fun _ K15 => ?_
 refine esk rfl ?_
 refine A_H ?_
 refine ent_open 3 1 false aInt (fun _ => rfl) ?_
 refine A_a (fun (ss : Int × Option Nat × Nat) => match ss with | (i, rr6, cc6) => (⟨[(10, aEx (.pointer (some ⟨b10_3, 0, none⟩))), (14, aBool true), (16, aEx (vec rr6 ((fltTo (c.refL (c.term us)) i.toNat).length) cc6)), (17, aSl 1 false aInts (c.refL (c.term us))), (18, aInt i)], [oVec rr6 cc6 3 1 false aInt (fltTo (c.refL (c.term us)) i.toNat), oVec ra_4 ca_4 3 1 false aInt ((List.drop ((↑(comb (c.tR (↑us.length : Int) (↑us.length : Int)).F (fillR (fun z => inF (c.tR (↑us.length : Int) (↑us.length : Int)).F (ix 0 msg z)) 0 (c.tR (↑us.length : Int) (↑us.length : Int)).Gen.length (min ((c.tR (↑us.length : Int) (↑us.length : Int)).Gen.length : Int) msg.length)) (c.tR (↑us.length : Int) (↑us.length : Int)).Gen (c.tR (↑us.length : Int) (↑us.length : Int)).N).length : Int) - (↑(ix [] c.Gen 0).length : Int)).toNat (comb (c.tR (↑us.length : Int) (↑us.length : Int)).F (fillR (fun z => inF (c.tR (↑us.length : Int) (↑us.length : Int)).F (ix 0 msg z)) 0 (c.tR (↑us.length : Int) (↑us.length : Int)).Gen.length (min ((c.tR (↑us.length : Int) (↑us.length : Int)).Gen.length : Int) msg.length)) (c.tR (↑us.length : Int) (↑us.length : Int)).Gen (c.tR (↑us.length : Int) (↑us.length : Int)).N)) ++ (List.take ((↑(comb (c.tR (↑us.length : Int) (↑us.length : Int)).F (fillR (fun z => inF (c.tR (↑us.length : Int) (↑us.length : Int)).F (ix 0 msg z)) 0 (c.tR (↑us.length : Int) (↑us.length : Int)).Gen.length (min ((c.tR (↑us.length : Int) (↑us.length : Int)).Gen.length : Int) msg.length)) (c.tR (↑us.length : Int) (↑us.length : Int)).Gen (c.tR (↑us.length : Int) (↑us.length : Int)).N).length : Int) - (↑(ix [] c.Gen 0).length : Int)).toNat (comb (c.tR (↑us.length : Int) (↑us.length : Int)).F (fillR (fun z => inF (c.tR (↑us.length : Int) (↑us.length : Int)).F (ix 0 msg z)) 0 (c.tR (↑us.length : Int) (↑us.length : Int)).Gen.length (min ((c.tR (↑us.length : Int) (↑us.length : Int)).Gen.length : Int) msg.length)) (c.tR (↑us.length : Int) (↑us.length : Int)).Gen (c.tR (↑us.length : Int) (↑us.length : Int)).N))), oBox b10_3 69 [aInt ((c.tR (↑us.length : Int) ((↑us.length : Int) + c.mem)).F.P), aInt ((c.tR (↑us.length : Int) ((↑us.length : Int) + c.mem)).F.M), aSl 1 false aInt ((c.tR (↑us.length : Int) ((↑us.length : Int) + c.mem)).F.mod), aInt ((c.tR (↑us.length : Int) ((↑us.length : Int) + c.mem)).N), aSl 1 false aInts ((c.tR (↑us.length : Int) ((↑us.length : Int) + c.mem)).Gen)], oBox b8_2 69 [aInt ((c.tR (↑us.length : Int) (↑us.length : Int)).F.P), aInt ((c.tR (↑us.length : Int) (↑us.length : Int)).F.M), aSl 1 false aInt ((c.tR (↑us.length : Int) (↑us.length : Int)).F.mod), aInt ((c.tR (↑us.length : Int) (↑us.length : Int)).N), aSl 1 false aInts ((c.tR (↑us.length : Int) (↑us.length : Int)).Gen)], oBox b3_1 27 [aInt c.F.P, aInt c.F.M, aSl 1 false aInt c.F.mod, aSl 1 false aRows c.Gen]]⟩ : St)) (fun (ss : Int × Option Nat × Nat) => match ss with | (i, rr6, cc6) => (0 <= i) /\ (i <= (c.refL (c.term us)).length)) (fun (ss : Int × Option Nat × Nat) => match ss with | (i, rr6, cc6) => ((c.refL (c.term us)).length - i).toNat) (0, none, 0) ⟨(by first | rfl | assumption | omega | (simp_all; done) | grind), (by first | rfl | assumption | omega | (simp_all; done) | grind)⟩ (A_G ⟨rfl, rfl, A_P ((show aEx (vec none ([] : List _).length 0) = aEx (vec none ((fltTo (c.refL (c.term us)) (0 : Int).toNat).length) 0) from av_vec (congrArg List.length (show fltTo (c.refL (c.term us)) (0 : Int).toNat = [] by rfl).symm))), rfl, A_P (A_c (show 0 = (0 : Int) by first | rfl | assumption | omega | (simp_all; done) | grind)), trivial⟩ (A_J (A_g (show fltTo (c.refL (c.term us)) (0 : Int).toNat = [] by rfl)) (rfl))) ?_
 rintro ⟨i, rr6, cc6⟩ ⟨i0, i1⟩
 show Ent _ ⟨_, [_, _, _, _, _]⟩ _
 have lfl := fltTo_len (X := c.refL (c.term us)) (n := c.n) (by omega) (k := i.toNat) (fun z z0 z1 => hrow z z0 (by omega))
 have hpb : c.n * (i.toNat : Int) <= 64 * 1000 := Int.mul_le_mul (by omega) (by omega) (by omega) (by omega)
 refine A_C fun _ K17 => ?_
 refine esr rfl fun _ K18 => ?_
 refine A_A rfl (A_l rfl runUnderlying42 rfl) ?_
 refine A_A rfl (A_p rfl rfl) ?_
 refine enk K18 ?_
 refine A_F rfl (fun h120 => ?_) (fun h120 => ?_)
 ·have hxi := hrow i i0 h120
  refine esp K17 ?_
  refine A_C fun _ K19 => ?_
  refine A_H ?_
  refine A_E ?_
  refine emm rfl ?_
  refine A_A rfl (A_X [] sl42 rfl rfl (by omega) (by omega)) ?_
  refine A_A rfl (A_Q ti22 rfl) ?_
  refine ent_appendS (k := 0) rfl vt22 rfl rfl (by first | rfl | assumption | (simp; done) | (simp_all; done) | omega) rfl (cv_id sub_refl) (by first | omega | (simp only [List.length_append, List.length_cons, List.length_nil]; omega) | (simp; omega)) (by first | omega | (simp only [List.length_append, List.length_cons, List.length_nil]; omega) | (simp; omega)) (fun r128_6 cr128_6 => ?_)
  refine emm rfl ?_
  refine enk K19 ?_
  refine A_E ?_
  refine emm rfl ?_
  refine A_A rfl (A_j rfl rfl (by omega) (by omega)) ?_
  refine emm rfl ?_
  refine A_O ?_
  refine A_T (s := (i, rr6, cc6)) (i + 1, r128_6, cr128_6) ⟨(by first | rfl | assumption | omega | (simp_all; done) | grind), (by first | rfl | assumption | omega | (simp_all; done) | grind)⟩ (by first | omega | (dsimp only; omega)) (A_G ⟨rfl, rfl, A_P (av_vec (congrArg List.length (show fltTo (c.refL (c.term us)) (i + 1).toNat = (fltTo (c.refL (c.term us)) i.toNat) ++ (ix [] (c.refL (c.term us)) i) by exact fltTo_succ (c.refL (c.term us)) i0).symm)), rfl, rfl, trivial⟩ (A_J (A_g (show fltTo (c.refL (c.term us)) (i + 1).toNat = (fltTo (c.refL (c.term us)) i.toNat) ++ (ix [] (c.refL (c.term us)) i) by exact fltTo_succ (c.refL (c.term us)) i0)) (rfl)))
 refine A_b ?_
 refine A_s K15 ?_
 refine A_C fun _ K20 => ?_
 have htm := Cnv.term_has hOk (us := us) (by omega) ht1.2.2.2 hr1 (k := i.toNat) (by omega)
 refine A_E ?_
 refine A_A rfl (A_V (k := 2) ti69 rfl rfl rfl) ?_
 refine emm rfl ?_
 refine A_A rfl (ok_callP [0] (by exact pl_tup ⟨pl_ex, pl_ex, trivial⟩) (rHas_ok (c.tR (↑us.length : Int) ((↑us.length : Int) + c.mem)) (fltTo (c.refL (c.term us)) i.toNat) htm.1 htm.2) ⟨arg_a rfl (cv_id (sub_lent _)), arg_a rfl (cv_vec (k := 0) (off_lent rfl (by decide)) (by first | rfl | assumption | (simp; done) | (simp_all; done) | omega) (by first | rfl | assumption | omega | (simp_all; done) | grind)), trivial⟩) ?_
 refine emm rfl ?_
 refine A_A rfl (A_e rfl rfl) ?_
 refine A_A rfl (A_e rfl rfl) ?_
 refine emm rfl ?_
 refine enk K20 ?_
 refine esr rfl fun _ K21 => ?_
 refine A_I rfl rfl rfl rfl rfl ?_
 refine emm rfl ?_
 refine A_A rfl (A_h rfl rfl rfl) ?_
 refine emm rfl ?_
 refine A_I rfl rfl rfl rfl rfl ?_
 refine emm rfl ?_
 refine A_I rfl rfl rfl rfl rfl ?_
 refine A_A rfl (ok_eql rfl rfl) ?_
 refine A_A rfl (A_h rfl rfl rfl) ?_
 refine emm rfl ?_
 refine enk K21 ?_
 refine A_S ?_
 exact retR1 (.inr rfl) results15 (A_N (A_W rfl (cv_bool (by rfl))))
end Go.Proofs.Ytfjhbdfgbpcchaa
