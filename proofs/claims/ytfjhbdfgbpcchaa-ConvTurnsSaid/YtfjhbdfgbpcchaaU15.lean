/-
  Walks of functions of the program and the reference.
-/
import Derived.Test.YtfjhbdfgbpcchaaU14
open Go Go.Cw
namespace Go.Proofs.Ytfjhbdfgbpcchaa
open Try
set_option maxRecDepth 100000
set_option linter.unusedVariables false
set_option linter.unusedSimpArgs false
theorem mCanonical_ok (f : Fld) (m : Mat)  : Ctr Try.prog 140 [aFld f, aMat m] (aTup [aMat (canM f m), aSl 1 false aInt (canP f m), aInt (mErr f m)]) := by
 refine ctr_of Try.call140 func140 rfl rfl ?_
 intro w O
 refine A_f 0 2 rfl rfl (fun hlen0_2 => ?_)
 refine A_f 1 1 rfl rfl (fun hlen1_1 => ?_)
 refine esr rfl fun _ K1 => ?_
 refine A_o rfl rfl (AllOne.mem ⟨(A_M _), (A_M _), A_i, trivial⟩) (fun b2_1 => ?_)
 refine A_o rfl rfl (AllOne.mem ⟨(A_M _), A_i, trivial⟩) (fun b3_2 => ?_)
 refine ent_alloc (z := .agg #[.int .i64 0, .slice none 0 0]) [aInt 0, aEx (.slice none 0 0)] rfl zv120 rfl zc120 (fun b4_3 => ?_)
 refine emm rfl ?_
 refine enk K1 ?_
 refine esr rfl fun _ K2 => ?_
 refine A_A rfl (A_V (k := 2) ti24 rfl rfl rfl) ?_
 refine A_A rfl (A_V (k := 1) ti120 rfl rfl rfl) ?_
 refine A_A rfl (ok_build1 (enc := aMat) (y := (⟨m.cols, m.rows⟩ : Mat)) vt169 rfl (elem_agg (AllOne.mem ⟨(A_M _), A_i, trivial⟩)) (by decide)) ?_
 rcases Classical.em (mErr f m = 0) with hm0 | hm0
 ·refine A_A rfl (A_Y (open_ok f [(⟨m.cols, m.rows⟩ : Mat)] (mErr_zero.1 hm0).1 (by intro q hq; simp only [List.mem_cons, List.not_mem_nil, or_false] at hq; subst hq; exact (mErr_zero.1 hm0).2) (by simp)) rfl) ?_
  refine emm rfl ?_
  refine A_A rfl (A_e rfl rfl) ?_
  refine A_A rfl (A_e rfl rfl) ?_
  refine emm rfl ?_
  refine enk K2 ?_
  refine A_C fun _ K3 => ?_
  refine esr rfl fun _ K4 => ?_
  refine A_A rfl (ok_neq rfl rfl) ?_
  refine enk K4 ?_
  refine ent_condFP rfl (by decide) ?_
  refine esp K3 ?_
  refine A_C fun _ K5 => ?_
  have hF := (mErr_zero.1 hm0).1
  have hme := (mErr_zero.1 hm0).2
  have hsz := mat_size hme
  have hgm := mat_good hme
  refine A_E ?_
  refine emm rfl ?_
  refine A_A rfl (A_B runUnderlying120 rfl sizeOf42 (by decide) rfl) ?_
  refine A_A rfl (A_L (k := 1) isAgg42 rfl rfl rfl) ?_
  refine A_A rfl (A_B runUnderlying120 rfl sizeOf3 (by decide) rfl) ?_
  refine A_A rfl (A_L (k := 1) isAgg3 rfl rfl rfl) ?_
  refine A_A rfl (A_Y (canon_ok f m.rows m.cols m.cols.toNat (by first | rfl | assumption | omega | (simp_all; done) | grind) hgm (by first | rfl | assumption | omega | (simp_all; done) | grind) (by first | rfl | assumption | omega | (simp_all; done) | grind) (by first | rfl | assumption | omega | (simp_all; done) | grind) (by first | rfl | assumption | omega | (simp_all; done) | grind)) rfl) ?_
  refine emm rfl ?_
  refine A_A rfl (A_e rfl rfl) ?_
  refine A_A rfl (A_e rfl rfl) ?_
  refine emm rfl ?_
  refine enk K5 ?_
  refine esr rfl fun _ K6 => ?_
  refine A_A rfl (A_B runUnderlying120 rfl sizeOf3 (by decide) rfl) ?_
  refine A_A rfl (A_L (k := 1) isAgg3 rfl rfl rfl) ?_
  refine emm rfl ?_
  refine A_A rfl (ok_build st120 (As := [aInt 0, aEx (.slice none 0 0)]) z120 (⟨0, 1, rfl, .inl ⟨rfl, _, rfl, (A_M _), rfl, ⟨1, 1, rfl, .inl ⟨rfl, _, rfl, A_i, rfl, rfl⟩⟩⟩⟩)) ?_
  refine emm rfl ?_
  refine ent_storeBS (k := 0) sizeOf120 rfl rfl rfl (AllOne.mem ⟨(A_M _), A_i, trivial⟩) rfl rfl ?_
  show Ent _ ⟨_, [_, _, _]⟩ _
  refine emm rfl ?_
  refine enk K6 ?_
  refine A_S ?_
  exact retR3 (.inr rfl) results140 (resr_cell (k := 0) ti120 rfl rfl rfl (cv_agg ⟨A_Z (by first | rfl | exact hm0.symm | exact opErr_one f m | (simp only [canM_ok hm0] <;> rfl) | (simp only [canM_no hm0] <;> rfl) | (simp; done)), cv_sl sub_x (by first | rfl | exact hm0.symm | exact opErr_one f m | (simp only [canM_ok hm0] <;> rfl) | (simp only [canM_no hm0] <;> rfl) | (simp; done)), trivial⟩)) (A_N (A_W rfl (cv_sl sub_x (by first | rfl | exact hm0.symm | exact opErr_one f m | (simp only [canP_ok hm0] <;> rfl) | (simp only [canP_no hm0] <;> rfl) | (simp; done))))) (A_N (A_W rfl (A_Z (by first | rfl | exact hm0.symm | exact opErr_one f m | (simp; done)))))
 refine A_A rfl (A_Y (open_no f [(⟨m.cols, m.rows⟩ : Mat)] (by rw [opErr_one]; exact hm0)) rfl) ?_
 refine emm rfl ?_
 refine A_A rfl (A_e rfl rfl) ?_
 refine A_A rfl (A_e rfl rfl) ?_
 refine emm rfl ?_
 refine enk K2 ?_
 refine A_C fun _ K7 => ?_
 refine esr rfl fun _ K8 => ?_
 refine A_A rfl (ok_neq rfl rfl) ?_
 refine enk K8 ?_
 refine A_F rfl (fun h19 => ?_) (fun h19 => ?_)
 ·refine esr rfl fun _ K9 => ?_
  refine A_A rfl (ok_build st120 (As := [aInt 0, aEx (.slice none 0 0)]) z120 (rfl)) ?_
  refine emm rfl ?_
  refine ent_storeBS (k := 0) sizeOf120 rfl rfl rfl (AllOne.mem ⟨(A_M _), (one_ex rfl), trivial⟩) rfl rfl ?_
  show Ent _ ⟨_, [_, _, _]⟩ _
  refine emm rfl ?_
  refine enk K9 ?_
  refine A_S ?_
  exact retR3 (.inr rfl) results140 (resr_cell (k := 0) ti120 rfl rfl rfl (cv_agg ⟨A_Z (by first | rfl | exact hm0.symm | exact opErr_one f m | (simp only [canM_ok hm0] <;> rfl) | (simp only [canM_no hm0] <;> rfl) | (simp; done)), cv_nil (fun _ => rfl) (by first | rfl | exact hm0.symm | exact opErr_one f m | (simp only [canM_ok hm0] <;> rfl) | (simp only [canM_no hm0] <;> rfl) | (simp; done)), trivial⟩)) (A_N (A_W rfl (cv_nil (fun _ => rfl) (by first | rfl | exact hm0.symm | exact opErr_one f m | (simp only [canP_ok hm0] <;> rfl) | (simp only [canP_no hm0] <;> rfl) | (simp; done))))) (A_N (A_W rfl (A_Z (by first | rfl | exact hm0.symm | exact opErr_one f m | (simp; done)))))
 exact absurd (Classical.not_not.1 h19) (by rw [opErr_one]; exact hm0)
end Go.Proofs.Ytfjhbdfgbpcchaa

