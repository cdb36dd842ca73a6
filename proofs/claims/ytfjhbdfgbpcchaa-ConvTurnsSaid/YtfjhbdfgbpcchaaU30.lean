/-
  Walks of functions of the program and the reference.
-/
import Derived.Test.YtfjhbdfgbpcchaaU20
open Go Go.Cw
namespace Go.Proofs.Ytfjhbdfgbpcchaa
open Try
set_option maxRecDepth 100000
set_option linter.unusedVariables false
set_option linter.unusedSimpArgs false

abbrev aCod (c : Cod) : AV := aAgg [aInt c.F.P, aInt c.F.M, aInts c.F.mod, aInt c.N, aRows c.Gen]

theorem own_ok (f : Fld) (hS : Shape f) : Ctr Try.prog 153 [aFld f] (aFld f) := by
 have hml := hS.mod_le
 refine ctr_of Try.call153 func153 rfl rfl ?_
 intro w O
 refine A_f 0 2 rfl rfl (fun hlen0_2 => ?_)
 refine esr rfl fun _ K1 => ?_
 refine A_o rfl rfl (AllOne.mem ⟨(A_M _), (A_M _), A_i, trivial⟩) (fun b1_1 => ?_)
 refine ent_alloc (z := .agg #[.int .i64 0, .int .i64 0, .slice none 0 0]) [aInt 0, aInt 0, aEx (.slice none 0 0)] rfl zv24 rfl zc24 (fun b2_2 => ?_)
 refine enk K1 ?_
 refine esr rfl fun _ K2 => ?_
 refine A_A rfl (A_B runUnderlying24 rfl sizeOf22 (by decide) rfl) ?_
 refine A_A rfl (A_L (k := 1) isAgg22 rfl rfl rfl) ?_
 refine A_A rfl (A_Y (CtrN.ctr (Clone_ok f.mod (by first | rfl | assumption | omega | (simp_all; done) | grind))) rfl) ?_
 refine A_A rfl (A_B runUnderlying24 rfl sizeOf22 (by decide) rfl) ?_
 refine ent_storeB (k := 1) sizeOf22 rfl rfl rfl A_i rfl ?_
 refine enk K2 ?_
 refine esr rfl fun _ K3 => ?_
 refine A_A rfl (A_V (k := 1) ti24 rfl rfl rfl) ?_
 refine ent_storeBS (k := 0) sizeOf24 rfl rfl rfl (AllOne.mem ⟨(A_M _), (A_M _), A_i, trivial⟩) rfl rfl ?_
 show Ent _ ⟨_, [_, _]⟩ _
 refine enk K3 ?_
 refine A_S ?_
 exact retR1 (.inr rfl) results153 (resr_cell (k := 0) ti24 rfl rfl rfl (cv_agg ⟨A_Z (by rfl), A_Z (by rfl), cv_sl sub_x (by rfl), trivial⟩))

theorem of_ok (f : Fld) (m : Mat) (hS : Shape f) : Ctr Try.prog 142 [aFld f, aMat m, aInt 0] (aTup [aCod (⟨f, m.cols, m.rows⟩), aInt 0]) := by
 refine ctr_of Try.call142 func142 rfl rfl ?_
 intro w O
 refine A_f 0 2 rfl rfl (fun hlen0_2 => ?_)
 refine A_f 1 1 rfl rfl (fun hlen1_1 => ?_)
 refine esr rfl fun _ K1 => ?_
 refine A_o rfl rfl (AllOne.mem ⟨(A_M _), (A_M _), A_i, trivial⟩) (fun b3_1 => ?_)
 refine A_o rfl rfl (AllOne.mem ⟨(A_M _), A_i, trivial⟩) (fun b4_2 => ?_)
 refine ent_alloc (z := .agg #[.int .i64 0, .int .i64 0, .slice none 0 0, .int .i64 0, .slice none 0 0]) [aInt 0, aInt 0, aEx (.slice none 0 0), aInt 0, aEx (.slice none 0 0)] rfl zv69 rfl zc69 (fun b6_3 => ?_)
 refine emm rfl ?_
 refine enk K1 ?_
 refine A_C fun _ K2 => ?_
 refine esr rfl fun _ K3 => ?_
 refine A_A rfl (ok_neq rfl rfl) ?_
 refine enk K3 ?_
 refine ent_condFP rfl (by decide) ?_
 refine esp K2 ?_
 refine A_C fun _ K4 => ?_
 refine A_u 7 mixed (by kernel_rfl) (by kernel_rfl) (by kernel_rfl) ?_
 refine dw_o rfl (A_V (k := 2) ti24 rfl rfl rfl) ?_
 refine dw_o rfl (A_Y (own_ok f (by first | rfl | assumption | omega | (simp_all; done) | grind)) rfl) ?_
 refine dw_o rfl (A_B runUnderlying120 rfl sizeOf3 (by decide) rfl) ?_
 refine dw_o rfl (A_L (k := 1) isAgg3 rfl rfl rfl) ?_
 refine dw_o rfl (A_B runUnderlying120 rfl sizeOf42 (by decide) rfl) ?_
 refine dw_o rfl (A_L (k := 1) isAgg42 rfl rfl rfl) ?_
 refine dw_o rfl (ok_build st69 (As := [aInt 0, aInt 0, aEx (.slice none 0 0), aInt 0, aEx (.slice none 0 0)]) z69 (⟨0, 3, rfl, .inr ⟨_, rfl, rfl, rfl, ⟨3, 1, rfl, .inl ⟨rfl, _, rfl, (A_M _), rfl, ⟨4, 1, rfl, .inl ⟨rfl, _, rfl, A_i, rfl, rfl⟩⟩⟩⟩⟩⟩)) ?_
 refine dw_nil ?_
 refine ent_storeBS (k := 0) sizeOf69 rfl rfl rfl (AllOne.mem ⟨(A_M _), (A_M _), A_i, (A_M _), A_i, trivial⟩) rfl rfl ?_
 show Ent _ ⟨_, [_, _, _]⟩ _
 refine emm rfl ?_
 refine enk K4 ?_
 refine A_S ?_
 exact retR2 (.inr rfl) results142 (resr_cell (k := 0) ti69 rfl rfl rfl (cv_agg ⟨A_Z (by rfl), A_Z (by rfl), cv_sl sub_x (by rfl), A_Z (by rfl), cv_sl sub_x (by rfl), trivial⟩)) (A_N (A_W rfl (A_Z (by rfl))))

theorem length_ok (n : Int)  : Ctr Try.prog 141 [aInt n] (aInt (if n < 1 \/ 64 < n then 4 else 0)) := by
 refine ctr_of Try.call141 func141 rfl rfl ?_
 intro w O
 refine esk rfl ?_
 refine A_C fun _ K2 => ?_
 refine A_C fun _ K3 => ?_
 refine ent_cut (⟨[(8, aBool (decide ((n < 1) \/ (64 < n))))], []⟩) ?_ ?_
 ·refine A_E ?_
  refine emm rfl ?_
  refine A_A rfl (A_p rfl rfl) ?_
  refine emm rfl ?_
  refine ent_guardXDf rfl rfl rfl rfl (fun hg5 => ?_) (fun hg5 => ?_)
  ·refine emm rfl ?_
   refine A_I rfl rfl rfl rfl (decide_eq_false hg5) ?_
   refine A_A rfl (ok_gtr rfl rfl) ?_
   refine A_A rfl (A_t rfl (decide_eq_false hg5) rfl) ?_
   refine A_O ?_
   exact A_G ⟨A_U (dq_Q ((or_iff_right hg5).trans Iff.rfl)), trivial⟩ rfl
  refine A_D rfl rfl rfl rfl (decide_eq_true hg5) ?_
  refine A_A rfl (A_h rfl (decide_eq_true hg5) rfl) ?_
  refine A_O ?_
  exact A_G ⟨A_U (dq_T rfl (Or.inl hg5)), trivial⟩ rfl
 refine A_s K3 ?_
 refine A_F rfl (fun h8 => ?_) (fun h8 => ?_)
 ·refine esk rfl ?_
  refine A_S ?_
  exact retR1 (.inr rfl) results141 (A_N (A_W rfl (A_Z (by rw [if_pos h8]))))
 refine esp K2 ?_
 refine esk rfl ?_
 refine A_S ?_
 exact retR1 (.inr rfl) results141 (A_N (A_W rfl (A_Z (by rw [if_neg h8]))))

theorem cNew_ok (f : Fld) (m : Mat) (hm : mErr f m = 0) (h1 : 1 <= m.cols) (h64 : m.cols <= 64) : Ctr Try.prog 122 [aFld f, aMat m] (aTup [aCod (⟨f, m.cols, canR (canX f m)⟩), aInt 0]) := by
 have hcm := canM_ok hm
 have hS := (mErr_zero.1 hm).1.1
 refine ctr_of Try.call122 func122 rfl rfl ?_
 intro w O
 refine A_f 0 2 rfl rfl (fun hlen0_2 => ?_)
 refine A_f 1 1 rfl rfl (fun hlen1_1 => ?_)
 refine esr rfl fun _ K1 => ?_
 refine A_o rfl rfl (AllOne.mem ⟨(A_M _), (A_M _), A_i, trivial⟩) (fun b2_1 => ?_)
 refine A_o rfl rfl (AllOne.mem ⟨(A_M _), A_i, trivial⟩) (fun b3_2 => ?_)
 refine ent_alloc (z := .agg #[.int .i64 0, .int .i64 0, .slice none 0 0, .int .i64 0, .slice none 0 0]) [aInt 0, aInt 0, aEx (.slice none 0 0), aInt 0, aEx (.slice none 0 0)] rfl zv69 rfl zc69 (fun b4_3 => ?_)
 refine emm rfl ?_
 refine enk K1 ?_
 refine esr rfl fun _ K2 => ?_
 refine A_A rfl (A_V (k := 2) ti24 rfl rfl rfl) ?_
 refine A_A rfl (A_V (k := 1) ti120 rfl rfl rfl) ?_
 refine A_A rfl (A_Y (mCanonical_ok f m) rfl) ?_
 refine emm rfl ?_
 refine A_A rfl (A_e rfl rfl) ?_
 refine A_A rfl (A_e rfl rfl) ?_
 refine A_A rfl (A_e rfl rfl) ?_
 refine ent_alloc (z := .agg #[.int .i64 0, .slice none 0 0]) [aInt 0, aEx (.slice none 0 0)] rfl zv120 rfl zc120 (fun b6_4 => ?_)
 refine ent_storeBS (k := 0) sizeOf120 rfl rfl rfl (AllOne.mem ⟨(A_M _), A_i, trivial⟩) rfl rfl ?_
 show Ent _ ⟨_, [_, _, _, _]⟩ _
 refine emm rfl ?_
 refine enk K2 ?_
 refine A_C fun _ K3 => ?_
 refine esr rfl fun _ K4 => ?_
 refine A_A rfl (ok_eql rfl rfl) ?_
 refine enk K4 ?_
 refine A_F rfl (fun h17 => ?_) (fun h17 => ?_)
 ·refine A_E ?_
  refine A_A rfl (A_B runUnderlying120 rfl sizeOf3 (by decide) rfl) ?_
  refine A_A rfl (A_L (k := 2) isAgg3 rfl rfl rfl) ?_
  refine A_A rfl (A_Y (length_ok m.cols) rfl) ?_
  refine emm rfl ?_
  refine enk K3 ?_
  refine esr rfl fun _ K5 => ?_
  refine A_A rfl (A_V (k := 3) ti24 rfl rfl rfl) ?_
  refine A_A rfl (A_V (k := 0) ti120 rfl rfl rfl) ?_
  refine emm rfl ?_
  refine A_A rfl (ok_callA (of_ok f (canM f m) hS) ⟨arg_a rfl (cv_id sub_refl), arg_a rfl (cv_id sub_refl), arg_a rfl (A_Z (by first | rfl | assumption | omega | (simp_all; done) | grind)), trivial⟩) ?_
  refine A_A rfl (A_e rfl rfl) ?_
  refine A_A rfl (A_e rfl rfl) ?_
  refine ent_storeBS (k := 1) sizeOf69 rfl rfl rfl (AllOne.mem ⟨(A_M _), (A_M _), A_i, (A_M _), A_i, trivial⟩) rfl rfl ?_
  show Ent _ ⟨_, [_, _, _, _]⟩ _
  refine emm rfl ?_
  refine enk K5 ?_
  refine A_S ?_
  exact retR2 (.inr rfl) results122 (resr_cell (k := 1) ti69 rfl rfl rfl (cv_agg ⟨A_Z (by first | rfl | (rw [hcm])), A_Z (by first | rfl | (rw [hcm])), cv_sl sub_x (by first | rfl | (rw [hcm])), A_Z (by first | rfl | (rw [hcm])), cv_sl sub_x (by first | rfl | (rw [hcm])), trivial⟩)) (A_N (A_W rfl (A_Z (by rfl))))
 exact absurd hm h17
end Go.Proofs.Ytfjhbdfgbpcchaa

