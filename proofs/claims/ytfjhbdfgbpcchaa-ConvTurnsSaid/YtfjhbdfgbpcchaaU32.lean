/-
  Walks of functions of the program and the reference.
-/
import Derived.Test.YtfjhbdfgbpcchaaU31
open Go Go.Cw
namespace Go.Proofs.Ytfjhbdfgbpcchaa
open Try
set_option maxRecDepth 100000
set_option linter.unusedVariables false
set_option linter.unusedSimpArgs false
theorem Terminated_ok (c : Cnv) (steps : Int) (hFew : c.Few) : Ctr Try.prog 48 [aCnv c, aInt steps] (aTup [aCod (c.tR steps (steps + c.mem)), aInt (c.tE steps (steps + c.mem))]) := by
 have hmn : 0 <= c.mem := c.maxD_nonneg c.Gen.length
 have hm4 := hFew.mem_le
 refine ctr_of Try.call48 func48 rfl rfl ?_
 intro w O
 refine A_f 0 2 rfl rfl (fun hlen0_2 => ?_)
 refine A_f 0 3 rfl rfl (fun hlen0_3 => ?_)
 refine esr rfl fun _ K1 => ?_
 refine A_o rfl rfl (AllOne.mem ⟨(A_M _), (A_M _), A_i, A_i, trivial⟩) (fun b2_1 => ?_)
 refine ent_alloc (z := .agg #[.int .i64 0, .int .i64 0, .slice none 0 0, .int .i64 0, .slice none 0 0]) [aInt 0, aInt 0, aEx (.slice none 0 0), aInt 0, aEx (.slice none 0 0)] rfl zv69 rfl zc69 (fun b4_2 => ?_)
 refine emm rfl ?_
 refine enk K1 ?_
 refine esr rfl fun _ K2 => ?_
 refine A_A rfl (A_V (k := 1) ti27 rfl rfl rfl) ?_
 rcases Classical.em (c.Ok) with hOk | hOk
 ·refine A_A rfl (A_Y (build_ok c (by first | rfl | assumption | omega | (simp_all; done) | grind) hOk) rfl) ?_
  refine emm rfl ?_
  refine A_A rfl (A_e rfl rfl) ?_
  refine A_A rfl (A_e rfl rfl) ?_
  refine emm rfl ?_
  refine enk K2 ?_
  refine A_C fun _ K3 => ?_
  refine A_H ?_
  refine esr rfl fun _ K4 => ?_
  refine A_A rfl (ok_neq rfl rfl) ?_
  refine emm rfl ?_
  refine enk K4 ?_
  refine ent_condFP rfl (by decide) ?_
  refine esr rfl fun _ K5 => ?_
  refine A_A rfl (A_p rfl rfl) ?_
  refine emm rfl ?_
  refine enk K5 ?_
  refine A_F rfl (fun h18 => ?_) (fun h18 => ?_)
  ·have h0 := Cnv.err_zero.2 hOk
   have he : c.tE steps (steps + c.mem) = 6 := Cnv.tE_rng h0 h18
   refine esr rfl fun _ K6 => ?_
   refine A_A rfl (ok_build st69 (As := [aInt 0, aInt 0, aEx (.slice none 0 0), aInt 0, aEx (.slice none 0 0)]) z69 (rfl)) ?_
   refine ent_storeBS (k := 0) sizeOf69 rfl rfl rfl (AllOne.mem ⟨(A_M _), (A_M _), (one_ex rfl), (A_M _), (one_ex rfl), trivial⟩) rfl rfl ?_
   show Ent _ ⟨_, [_, _]⟩ _
   refine emm rfl ?_
   refine enk K6 ?_
   refine A_S ?_
   exact retR2 (.inr rfl) results48 (resr_cell (k := 0) ti69 rfl rfl rfl (cv_agg ⟨A_Z (by first | (rw [show c.tR steps (steps + c.mem) = Cod.no from if_neg (by rw [he]; first | exact h13 | decide)]; rfl) | (rw [show c.tR steps (steps + c.mem) = c.tC steps (steps + c.mem) from if_pos he])), A_Z (by first | (rw [show c.tR steps (steps + c.mem) = Cod.no from if_neg (by rw [he]; first | exact h13 | decide)]; rfl) | (rw [show c.tR steps (steps + c.mem) = c.tC steps (steps + c.mem) from if_pos he])), cv_nil (fun _ => rfl) (by first | (rw [show c.tR steps (steps + c.mem) = Cod.no from if_neg (by rw [he]; first | exact h13 | decide)]; rfl) | (rw [show c.tR steps (steps + c.mem) = c.tC steps (steps + c.mem) from if_pos he])), A_Z (by first | (rw [show c.tR steps (steps + c.mem) = Cod.no from if_neg (by rw [he]; first | exact h13 | decide)]; rfl) | (rw [show c.tR steps (steps + c.mem) = c.tC steps (steps + c.mem) from if_pos he])), cv_nil (fun _ => rfl) (by first | (rw [show c.tR steps (steps + c.mem) = Cod.no from if_neg (by rw [he]; first | exact h13 | decide)]; rfl) | (rw [show c.tR steps (steps + c.mem) = c.tC steps (steps + c.mem) from if_pos he])), trivial⟩)) (A_N (A_W rfl (A_Z (by exact he.symm))))
  have h0 := Cnv.err_zero.2 hOk
  have hkn := hOk.kn
  have hnl := hOk.len
  have hmul : steps <= 64 -> 0 <= c.n * (steps + c.mem) /\ c.n * (steps + c.mem) <= 64 * 104 := fun h => ⟨Int.mul_nonneg (by omega) (by omega), Int.mul_le_mul (by omega) (by omega) (by omega) (by omega)⟩
  refine A_C fun _ K7 => ?_
  refine ent_cut (⟨[(1, aInt steps), (2, aEx (.pointer (some ⟨b2_1, 0, none⟩))), (4, aEx (.pointer (some ⟨b4_2, 0, none⟩))), (6, aMach c), (22, aBool (decide ((64 < steps) \/ (64 < (c.n * (steps + c.mem))))))], [oBox b4_2 69 [aInt 0, aInt 0, aEx (.slice none 0 0), aInt 0, aEx (.slice none 0 0)], oBox b2_1 27 [aInt c.F.P, aInt c.F.M, aSl 1 false aInt c.F.mod, aSl 1 false aRows c.Gen]]⟩) ?_ ?_
  ·refine A_u 17 mixed (by kernel_rfl) (by kernel_rfl) (by kernel_rfl) ?_
   refine dw_o rfl (A_K rfl) ?_
   refine dw_o rfl (ok_gtr rfl rfl) ?_
   refine dw_o rfl (A_K rfl) ?_
   refine dw_guardDf rfl rfl rfl rfl (fun hg25 => ?_) (fun hg25 => ?_)
   ·refine dw_o rfl (A_K rfl) ?_
    refine A_d rfl rfl rfl rfl (decide_eq_false hg25) ?_
    refine dw_o rfl (A_r rfl) ?_
    refine A_d rfl rfl rfl rfl (decide_eq_false hg25) ?_
    refine dw_o rfl (A_k runUnderlying84 rfl sizeOf3 rfl rfl) ?_
    refine A_d rfl rfl rfl rfl (decide_eq_false hg25) ?_
    refine dw_o rfl (A_Q ti3 rfl) ?_
    refine A_d rfl rfl rfl rfl (decide_eq_false hg25) ?_
    refine dw_o rfl (A_K rfl) ?_
    refine A_d rfl rfl rfl rfl (decide_eq_false hg25) ?_
    refine dw_o rfl (A_K rfl) ?_
    refine A_d rfl rfl rfl rfl (decide_eq_false hg25) ?_
    refine dw_o rfl (A_r rfl) ?_
    refine A_d rfl rfl rfl rfl (decide_eq_false hg25) ?_
    refine dw_o rfl (A_k runUnderlying84 rfl sizeOf3 rfl rfl) ?_
    refine A_d rfl rfl rfl rfl (decide_eq_false hg25) ?_
    refine dw_o rfl (A_Q ti3 rfl) ?_
    refine A_d rfl rfl rfl rfl (decide_eq_false hg25) ?_
    refine dw_o rfl (A_j rfl rfl (by omega) (by omega)) ?_
    refine A_d rfl rfl rfl rfl (decide_eq_false hg25) ?_
    refine dw_o rfl (ok_mul rfl rfl (by omega) (by omega)) ?_
    refine A_d rfl rfl rfl rfl (decide_eq_false hg25) ?_
    refine dw_o rfl (ok_gtr rfl rfl) ?_
    refine dw_o rfl (A_t rfl (decide_eq_false hg25) rfl) ?_
    refine dw_o rfl (ok_assign rfl) ?_
    refine dw_nil ?_
    refine A_O ?_
    exact A_G ⟨rfl, rfl, rfl, rfl, A_U (dq_Q ((or_iff_right hg25).trans Iff.rfl)), trivial⟩ rfl
   refine A_R rfl rfl rfl rfl (decide_eq_true hg25) ?_
   refine A_R rfl rfl rfl rfl (decide_eq_true hg25) ?_
   refine A_R rfl rfl rfl rfl (decide_eq_true hg25) ?_
   refine A_R rfl rfl rfl rfl (decide_eq_true hg25) ?_
   refine A_R rfl rfl rfl rfl (decide_eq_true hg25) ?_
   refine A_R rfl rfl rfl rfl (decide_eq_true hg25) ?_
   refine A_R rfl rfl rfl rfl (decide_eq_true hg25) ?_
   refine A_R rfl rfl rfl rfl (decide_eq_true hg25) ?_
   refine A_R rfl rfl rfl rfl (decide_eq_true hg25) ?_
   refine A_R rfl rfl rfl rfl (decide_eq_true hg25) ?_
   refine A_R rfl rfl rfl rfl (decide_eq_true hg25) ?_
   refine dw_o rfl (A_h rfl (decide_eq_true hg25) rfl) ?_
   refine dw_o rfl (ok_assign rfl) ?_
   refine dw_nil ?_
   refine A_O ?_
   exact A_G ⟨rfl, rfl, rfl, rfl, A_U (dq_T rfl (Or.inl hg25)), trivial⟩ rfl
  refine A_s K7 ?_
  refine A_F rfl (fun h22 => ?_) (fun h22 => ?_)
  ·have he : c.tE steps (steps + c.mem) = 4 := Cnv.tE_len h0 h18 h22
   refine esr rfl fun _ K8 => ?_
   refine A_A rfl (ok_build st69 (As := [aInt 0, aInt 0, aEx (.slice none 0 0), aInt 0, aEx (.slice none 0 0)]) z69 (rfl)) ?_
   refine ent_storeBS (k := 0) sizeOf69 rfl rfl rfl (AllOne.mem ⟨(A_M _), (A_M _), (one_ex rfl), (A_M _), (one_ex rfl), trivial⟩) rfl rfl ?_
   show Ent _ ⟨_, [_, _]⟩ _
   refine emm rfl ?_
   refine enk K8 ?_
   refine A_S ?_
   exact retR2 (.inr rfl) results48 (resr_cell (k := 0) ti69 rfl rfl rfl (cv_agg ⟨A_Z (by first | (rw [show c.tR steps (steps + c.mem) = Cod.no from if_neg (by rw [he]; first | exact h13 | decide)]; rfl) | (rw [show c.tR steps (steps + c.mem) = c.tC steps (steps + c.mem) from if_pos he])), A_Z (by first | (rw [show c.tR steps (steps + c.mem) = Cod.no from if_neg (by rw [he]; first | exact h13 | decide)]; rfl) | (rw [show c.tR steps (steps + c.mem) = c.tC steps (steps + c.mem) from if_pos he])), cv_nil (fun _ => rfl) (by first | (rw [show c.tR steps (steps + c.mem) = Cod.no from if_neg (by rw [he]; first | exact h13 | decide)]; rfl) | (rw [show c.tR steps (steps + c.mem) = c.tC steps (steps + c.mem) from if_pos he])), A_Z (by first | (rw [show c.tR steps (steps + c.mem) = Cod.no from if_neg (by rw [he]; first | exact h13 | decide)]; rfl) | (rw [show c.tR steps (steps + c.mem) = c.tC steps (steps + c.mem) from if_pos he])), cv_nil (fun _ => rfl) (by first | (rw [show c.tR steps (steps + c.mem) = Cod.no from if_neg (by rw [he]; first | exact h13 | decide)]; rfl) | (rw [show c.tR steps (steps + c.mem) = c.tC steps (steps + c.mem) from if_pos he])), trivial⟩)) (A_N (A_W rfl (A_Z (by exact he.symm))))
  have he : c.tE steps (steps + c.mem) = 0 := Cnv.tE_ok h0 h18 h22
  refine esp K3 ?_
  refine A_C fun _ K9 => ?_
  refine A_u 13 mixed (by kernel_rfl) (by kernel_rfl) (by kernel_rfl) ?_
  refine dw_o rfl (A_K rfl) ?_
  refine dw_o rfl (A_B runUnderlying27 rfl sizeOf24 (by decide) rfl) ?_
  refine dw_o rfl (A_V (k := 1) ti24 rfl rfl rfl) ?_
  refine dw_o rfl (A_K rfl) ?_
  refine dw_o rfl (A_K rfl) ?_
  refine dw_o rfl (A_K rfl) ?_
  refine dw_o rfl (A_r rfl) ?_
  refine dw_o rfl (A_k runUnderlying84 rfl sizeOf3 rfl rfl) ?_
  refine dw_o rfl (A_Q ti3 rfl) ?_
  refine dw_o rfl (A_j rfl rfl (by omega) (by omega)) ?_
  refine dw_o rfl (A_Y (block_ok c steps (steps + c.mem) hFew hOk (by omega) (by omega) (by omega)) rfl) ?_
  refine dw_o rfl (A_e rfl rfl) ?_
  refine dw_o rfl (A_e rfl rfl) ?_
  refine dw_nil ?_
  refine ent_storeBS (k := 0) sizeOf69 rfl rfl rfl (AllOne.mem ⟨(A_M _), (A_M _), A_i, (A_M _), A_i, trivial⟩) rfl rfl ?_
  show Ent _ ⟨_, [_, _]⟩ _
  refine emm rfl ?_
  refine enk K9 ?_
  refine A_S ?_
  exact retR2 (.inr rfl) results48 (resr_cell (k := 0) ti69 rfl rfl rfl (cv_agg ⟨A_Z (by first | (rw [show c.tR steps (steps + c.mem) = Cod.no from if_neg (by rw [he]; first | exact h13 | decide)]; rfl) | (rw [show c.tR steps (steps + c.mem) = c.tC steps (steps + c.mem) from if_pos he])), A_Z (by first | (rw [show c.tR steps (steps + c.mem) = Cod.no from if_neg (by rw [he]; first | exact h13 | decide)]; rfl) | (rw [show c.tR steps (steps + c.mem) = c.tC steps (steps + c.mem) from if_pos he])), cv_sl sub_x (by first | (rw [show c.tR steps (steps + c.mem) = Cod.no from if_neg (by rw [he]; first | exact h13 | decide)]; rfl) | (rw [show c.tR steps (steps + c.mem) = c.tC steps (steps + c.mem) from if_pos he])), A_Z (by first | (rw [show c.tR steps (steps + c.mem) = Cod.no from if_neg (by rw [he]; first | exact h13 | decide)]; rfl) | (rw [show c.tR steps (steps + c.mem) = c.tC steps (steps + c.mem) from if_pos he])), cv_sl sub_x (by first | (rw [show c.tR steps (steps + c.mem) = Cod.no from if_neg (by rw [he]; first | exact h13 | decide)]; rfl) | (rw [show c.tR steps (steps + c.mem) = c.tC steps (steps + c.mem) from if_pos he])), trivial⟩)) (A_N (A_W rfl (A_Z (by exact he.symm))))
 refine A_A rfl (A_Y (build_no c (by first | rfl | assumption | omega | (simp_all; done) | grind) hOk) rfl) ?_
 refine emm rfl ?_
 refine A_A rfl (A_e rfl rfl) ?_
 refine A_A rfl (A_e rfl rfl) ?_
 refine emm rfl ?_
 refine enk K2 ?_
 refine A_C fun _ K10 => ?_
 refine A_H ?_
 refine esr rfl fun _ K11 => ?_
 refine A_A rfl (ok_neq rfl rfl) ?_
 refine emm rfl ?_
 refine enk K11 ?_
 refine A_F rfl (fun h13 => ?_) (fun h13 => ?_)
 ·have he : c.tE steps (steps + c.mem) = c.err := Cnv.tE_err h13
  refine esr rfl fun _ K12 => ?_
  refine A_A rfl (ok_build st69 (As := [aInt 0, aInt 0, aEx (.slice none 0 0), aInt 0, aEx (.slice none 0 0)]) z69 (rfl)) ?_
  refine emm rfl ?_
  refine ent_storeBS (k := 0) sizeOf69 rfl rfl rfl (AllOne.mem ⟨(A_M _), (A_M _), (one_ex rfl), (A_M _), (one_ex rfl), trivial⟩) rfl rfl ?_
  show Ent _ ⟨_, [_, _]⟩ _
  refine emm rfl ?_
  refine enk K12 ?_
  refine A_S ?_
  exact retR2 (.inr rfl) results48 (resr_cell (k := 0) ti69 rfl rfl rfl (cv_agg ⟨A_Z (by first | (rw [show c.tR steps (steps + c.mem) = Cod.no from if_neg (by rw [he]; first | exact h13 | decide)]; rfl) | (rw [show c.tR steps (steps + c.mem) = c.tC steps (steps + c.mem) from if_pos he])), A_Z (by first | (rw [show c.tR steps (steps + c.mem) = Cod.no from if_neg (by rw [he]; first | exact h13 | decide)]; rfl) | (rw [show c.tR steps (steps + c.mem) = c.tC steps (steps + c.mem) from if_pos he])), cv_nil (fun _ => rfl) (by first | (rw [show c.tR steps (steps + c.mem) = Cod.no from if_neg (by rw [he]; first | exact h13 | decide)]; rfl) | (rw [show c.tR steps (steps + c.mem) = c.tC steps (steps + c.mem) from if_pos he])), A_Z (by first | (rw [show c.tR steps (steps + c.mem) = Cod.no from if_neg (by rw [he]; first | exact h13 | decide)]; rfl) | (rw [show c.tR steps (steps + c.mem) = c.tC steps (steps + c.mem) from if_pos he])), cv_nil (fun _ => rfl) (by first | (rw [show c.tR steps (steps + c.mem) = Cod.no from if_neg (by rw [he]; first | exact h13 | decide)]; rfl) | (rw [show c.tR steps (steps + c.mem) = c.tC steps (steps + c.mem) from if_pos he])), trivial⟩)) (A_N (A_W rfl (A_Z (by exact he.symm))))
 exact absurd (Cnv.err_zero.1 (Classical.not_not.1 h13)) hOk

theorem TailBiting_ok (c : Cnv) (steps : Int) (hFew : c.Few) : Ctr Try.prog 49 [aCnv c, aInt steps] (aTup [aCod (c.tR steps steps), aInt (c.tE steps steps)]) := by
 have hmn : 0 <= c.mem := c.maxD_nonneg c.Gen.length
 have hm4 := hFew.mem_le
 refine ctr_of Try.call49 func49 rfl rfl ?_
 intro w O
 refine A_f 0 2 rfl rfl (fun hlen0_2 => ?_)
 refine A_f 0 3 rfl rfl (fun hlen0_3 => ?_)
 refine esr rfl fun _ K1 => ?_
 refine A_o rfl rfl (AllOne.mem ⟨(A_M _), (A_M _), A_i, A_i, trivial⟩) (fun b2_1 => ?_)
 refine ent_alloc (z := .agg #[.int .i64 0, .int .i64 0, .slice none 0 0, .int .i64 0, .slice none 0 0]) [aInt 0, aInt 0, aEx (.slice none 0 0), aInt 0, aEx (.slice none 0 0)] rfl zv69 rfl zc69 (fun b4_2 => ?_)
 refine emm rfl ?_
 refine enk K1 ?_
 refine esr rfl fun _ K2 => ?_
 refine A_A rfl (A_V (k := 1) ti27 rfl rfl rfl) ?_
 rcases Classical.em (c.Ok) with hOk | hOk
 ·refine A_A rfl (A_Y (build_ok c (by first | rfl | assumption | omega | (simp_all; done) | grind) hOk) rfl) ?_
  refine emm rfl ?_
  refine A_A rfl (A_e rfl rfl) ?_
  refine A_A rfl (A_e rfl rfl) ?_
  refine emm rfl ?_
  refine enk K2 ?_
  refine A_C fun _ K3 => ?_
  refine A_H ?_
  refine esr rfl fun _ K4 => ?_
  refine A_A rfl (ok_neq rfl rfl) ?_
  refine emm rfl ?_
  refine enk K4 ?_
  refine ent_condFP rfl (by decide) ?_
  refine esr rfl fun _ K5 => ?_
  refine A_A rfl (A_p rfl rfl) ?_
  refine emm rfl ?_
  refine enk K5 ?_
  refine A_F rfl (fun h18 => ?_) (fun h18 => ?_)
  ·have h0 := Cnv.err_zero.2 hOk
   have he : c.tE steps steps = 6 := Cnv.tE_rng h0 h18
   refine esr rfl fun _ K6 => ?_
   refine A_A rfl (ok_build st69 (As := [aInt 0, aInt 0, aEx (.slice none 0 0), aInt 0, aEx (.slice none 0 0)]) z69 (rfl)) ?_
   refine ent_storeBS (k := 0) sizeOf69 rfl rfl rfl (AllOne.mem ⟨(A_M _), (A_M _), (one_ex rfl), (A_M _), (one_ex rfl), trivial⟩) rfl rfl ?_
   show Ent _ ⟨_, [_, _]⟩ _
   refine emm rfl ?_
   refine enk K6 ?_
   refine A_S ?_
   exact retR2 (.inr rfl) results49 (resr_cell (k := 0) ti69 rfl rfl rfl (cv_agg ⟨A_Z (by first | (rw [show c.tR steps steps = Cod.no from if_neg (by rw [he]; first | exact h13 | decide)]; rfl) | (rw [show c.tR steps steps = c.tC steps steps from if_pos he])), A_Z (by first | (rw [show c.tR steps steps = Cod.no from if_neg (by rw [he]; first | exact h13 | decide)]; rfl) | (rw [show c.tR steps steps = c.tC steps steps from if_pos he])), cv_nil (fun _ => rfl) (by first | (rw [show c.tR steps steps = Cod.no from if_neg (by rw [he]; first | exact h13 | decide)]; rfl) | (rw [show c.tR steps steps = c.tC steps steps from if_pos he])), A_Z (by first | (rw [show c.tR steps steps = Cod.no from if_neg (by rw [he]; first | exact h13 | decide)]; rfl) | (rw [show c.tR steps steps = c.tC steps steps from if_pos he])), cv_nil (fun _ => rfl) (by first | (rw [show c.tR steps steps = Cod.no from if_neg (by rw [he]; first | exact h13 | decide)]; rfl) | (rw [show c.tR steps steps = c.tC steps steps from if_pos he])), trivial⟩)) (A_N (A_W rfl (A_Z (by exact he.symm))))
  have h0 := Cnv.err_zero.2 hOk
  have hkn := hOk.kn
  have hnl := hOk.len
  have hmul : steps <= 64 -> 0 <= c.n * steps /\ c.n * steps <= 64 * 104 := fun h => ⟨Int.mul_nonneg (by omega) (by omega), Int.mul_le_mul (by omega) (by omega) (by omega) (by omega)⟩
  refine A_C fun _ K7 => ?_
  refine ent_cut (⟨[(1, aInt steps), (2, aEx (.pointer (some ⟨b2_1, 0, none⟩))), (4, aEx (.pointer (some ⟨b4_2, 0, none⟩))), (6, aMach c), (22, aBool (decide ((64 < steps) \/ (64 < (c.n * steps)))))], [oBox b4_2 69 [aInt 0, aInt 0, aEx (.slice none 0 0), aInt 0, aEx (.slice none 0 0)], oBox b2_1 27 [aInt c.F.P, aInt c.F.M, aSl 1 false aInt c.F.mod, aSl 1 false aRows c.Gen]]⟩) ?_ ?_
  ·refine A_E ?_
   refine emm rfl ?_
   refine A_A rfl (ok_gtr rfl rfl) ?_
   refine emm rfl ?_
   refine ent_guardXDf rfl rfl rfl rfl (fun hg25 => ?_) (fun hg25 => ?_)
   ·refine emm rfl ?_
    refine A_I rfl rfl rfl rfl (decide_eq_false hg25) ?_
    refine A_A rfl (A_r rfl) ?_
    refine A_I rfl rfl rfl rfl (decide_eq_false hg25) ?_
    refine A_A rfl (A_k runUnderlying84 rfl sizeOf3 rfl rfl) ?_
    refine A_I rfl rfl rfl rfl (decide_eq_false hg25) ?_
    refine A_A rfl (A_Q ti3 rfl) ?_
    refine A_I rfl rfl rfl rfl (decide_eq_false hg25) ?_
    refine emm rfl ?_
    refine A_I rfl rfl rfl rfl (decide_eq_false hg25) ?_
    refine A_A rfl (ok_mul rfl rfl (by omega) (by omega)) ?_
    refine A_I rfl rfl rfl rfl (decide_eq_false hg25) ?_
    refine A_A rfl (ok_gtr rfl rfl) ?_
    refine A_A rfl (A_t rfl (decide_eq_false hg25) rfl) ?_
    refine emm rfl ?_
    refine A_O ?_
    exact A_G ⟨rfl, rfl, rfl, rfl, A_U (dq_Q ((or_iff_right hg25).trans Iff.rfl)), trivial⟩ rfl
   refine A_D rfl rfl rfl rfl (decide_eq_true hg25) ?_
   refine A_D rfl rfl rfl rfl (decide_eq_true hg25) ?_
   refine A_D rfl rfl rfl rfl (decide_eq_true hg25) ?_
   refine A_D rfl rfl rfl rfl (decide_eq_true hg25) ?_
   refine A_D rfl rfl rfl rfl (decide_eq_true hg25) ?_
   refine A_D rfl rfl rfl rfl (decide_eq_true hg25) ?_
   refine A_A rfl (A_h rfl (decide_eq_true hg25) rfl) ?_
   refine emm rfl ?_
   refine A_O ?_
   exact A_G ⟨rfl, rfl, rfl, rfl, A_U (dq_T rfl (Or.inl hg25)), trivial⟩ rfl
  refine A_s K7 ?_
  refine A_F rfl (fun h22 => ?_) (fun h22 => ?_)
  ·have he : c.tE steps steps = 4 := Cnv.tE_len h0 h18 h22
   refine esr rfl fun _ K8 => ?_
   refine A_A rfl (ok_build st69 (As := [aInt 0, aInt 0, aEx (.slice none 0 0), aInt 0, aEx (.slice none 0 0)]) z69 (rfl)) ?_
   refine ent_storeBS (k := 0) sizeOf69 rfl rfl rfl (AllOne.mem ⟨(A_M _), (A_M _), (one_ex rfl), (A_M _), (one_ex rfl), trivial⟩) rfl rfl ?_
   show Ent _ ⟨_, [_, _]⟩ _
   refine emm rfl ?_
   refine enk K8 ?_
   refine A_S ?_
   exact retR2 (.inr rfl) results49 (resr_cell (k := 0) ti69 rfl rfl rfl (cv_agg ⟨A_Z (by first | (rw [show c.tR steps steps = Cod.no from if_neg (by rw [he]; first | exact h13 | decide)]; rfl) | (rw [show c.tR steps steps = c.tC steps steps from if_pos he])), A_Z (by first | (rw [show c.tR steps steps = Cod.no from if_neg (by rw [he]; first | exact h13 | decide)]; rfl) | (rw [show c.tR steps steps = c.tC steps steps from if_pos he])), cv_nil (fun _ => rfl) (by first | (rw [show c.tR steps steps = Cod.no from if_neg (by rw [he]; first | exact h13 | decide)]; rfl) | (rw [show c.tR steps steps = c.tC steps steps from if_pos he])), A_Z (by first | (rw [show c.tR steps steps = Cod.no from if_neg (by rw [he]; first | exact h13 | decide)]; rfl) | (rw [show c.tR steps steps = c.tC steps steps from if_pos he])), cv_nil (fun _ => rfl) (by first | (rw [show c.tR steps steps = Cod.no from if_neg (by rw [he]; first | exact h13 | decide)]; rfl) | (rw [show c.tR steps steps = c.tC steps steps from if_pos he])), trivial⟩)) (A_N (A_W rfl (A_Z (by exact he.symm))))
  have he : c.tE steps steps = 0 := Cnv.tE_ok h0 h18 h22
  refine esp K3 ?_
  refine esr rfl fun _ K9 => ?_
  refine A_A rfl (A_B runUnderlying27 rfl sizeOf24 (by decide) rfl) ?_
  refine A_A rfl (A_V (k := 1) ti24 rfl rfl rfl) ?_
  refine emm rfl ?_
  refine A_A rfl (A_Y (block_ok c steps steps hFew hOk (by omega) (by omega) (by omega)) rfl) ?_
  refine A_A rfl (A_e rfl rfl) ?_
  refine A_A rfl (A_e rfl rfl) ?_
  refine ent_storeBS (k := 0) sizeOf69 rfl rfl rfl (AllOne.mem ⟨(A_M _), (A_M _), A_i, (A_M _), A_i, trivial⟩) rfl rfl ?_
  show Ent _ ⟨_, [_, _]⟩ _
  refine emm rfl ?_
  refine enk K9 ?_
  refine A_S ?_
  exact retR2 (.inr rfl) results49 (resr_cell (k := 0) ti69 rfl rfl rfl (cv_agg ⟨A_Z (by first | (rw [show c.tR steps steps = Cod.no from if_neg (by rw [he]; first | exact h13 | decide)]; rfl) | (rw [show c.tR steps steps = c.tC steps steps from if_pos he])), A_Z (by first | (rw [show c.tR steps steps = Cod.no from if_neg (by rw [he]; first | exact h13 | decide)]; rfl) | (rw [show c.tR steps steps = c.tC steps steps from if_pos he])), cv_sl sub_x (by first | (rw [show c.tR steps steps = Cod.no from if_neg (by rw [he]; first | exact h13 | decide)]; rfl) | (rw [show c.tR steps steps = c.tC steps steps from if_pos he])), A_Z (by first | (rw [show c.tR steps steps = Cod.no from if_neg (by rw [he]; first | exact h13 | decide)]; rfl) | (rw [show c.tR steps steps = c.tC steps steps from if_pos he])), cv_sl sub_x (by first | (rw [show c.tR steps steps = Cod.no from if_neg (by rw [he]; first | exact h13 | decide)]; rfl) | (rw [show c.tR steps steps = c.tC steps steps from if_pos he])), trivial⟩)) (A_N (A_W rfl (A_Z (by exact he.symm))))
 refine A_A rfl (A_Y (build_no c (by first | rfl | assumption | omega | (simp_all; done) | grind) hOk) rfl) ?_
 refine emm rfl ?_
 refine A_A rfl (A_e rfl rfl) ?_
 refine A_A rfl (A_e rfl rfl) ?_
 refine emm rfl ?_
 refine enk K2 ?_
 refine A_C fun _ K10 => ?_
 refine A_H ?_
 refine esr rfl fun _ K11 => ?_
 refine A_A rfl (ok_neq rfl rfl) ?_
 refine emm rfl ?_
 refine enk K11 ?_
 refine A_F rfl (fun h13 => ?_) (fun h13 => ?_)
 ·have he : c.tE steps steps = c.err := Cnv.tE_err h13
  refine esr rfl fun _ K12 => ?_
  refine A_A rfl (ok_build st69 (As := [aInt 0, aInt 0, aEx (.slice none 0 0), aInt 0, aEx (.slice none 0 0)]) z69 (rfl)) ?_
  refine emm rfl ?_
  refine ent_storeBS (k := 0) sizeOf69 rfl rfl rfl (AllOne.mem ⟨(A_M _), (A_M _), (one_ex rfl), (A_M _), (one_ex rfl), trivial⟩) rfl rfl ?_
  show Ent _ ⟨_, [_, _]⟩ _
  refine emm rfl ?_
  refine enk K12 ?_
  refine A_S ?_
  exact retR2 (.inr rfl) results49 (resr_cell (k := 0) ti69 rfl rfl rfl (cv_agg ⟨A_Z (by first | (rw [show c.tR steps steps = Cod.no from if_neg (by rw [he]; first | exact h13 | decide)]; rfl) | (rw [show c.tR steps steps = c.tC steps steps from if_pos he])), A_Z (by first | (rw [show c.tR steps steps = Cod.no from if_neg (by rw [he]; first | exact h13 | decide)]; rfl) | (rw [show c.tR steps steps = c.tC steps steps from if_pos he])), cv_nil (fun _ => rfl) (by first | (rw [show c.tR steps steps = Cod.no from if_neg (by rw [he]; first | exact h13 | decide)]; rfl) | (rw [show c.tR steps steps = c.tC steps steps from if_pos he])), A_Z (by first | (rw [show c.tR steps steps = Cod.no from if_neg (by rw [he]; first | exact h13 | decide)]; rfl) | (rw [show c.tR steps steps = c.tC steps steps from if_pos he])), cv_nil (fun _ => rfl) (by first | (rw [show c.tR steps steps = Cod.no from if_neg (by rw [he]; first | exact h13 | decide)]; rfl) | (rw [show c.tR steps steps = c.tC steps steps from if_pos he])), trivial⟩)) (A_N (A_W rfl (A_Z (by exact he.symm))))
 exact absurd (Cnv.err_zero.1 (Classical.not_not.1 h13)) hOk
end Go.Proofs.Ytfjhbdfgbpcchaa

