/-
  The examples.
-/
import Derived.Test.YtamhdlkfhhpdpaaPlainRf
set_option linter.unusedVariables false
set_option linter.unusedSimpArgs false
set_option linter.unusedSectionVars false
namespace Go.Cw
def awF : Fld := ⟨2, 1, []⟩
def awG : Fld := ⟨5, 1, []⟩
def awM : Mat := ⟨3, [[1, 1, 0], [0, 1, 1], [1, 0, 1]]⟩
def awS : Mat := ⟨2, [[1, 2], [3, 4]]⟩
theorem aw_f : FOk awF := fok_one ⟨by decide +kernel, by decide +kernel, by simp [modOk, awF]⟩ rfl
theorem aw_g : FOk awG := fok_one ⟨by decide +kernel, by decide +kernel, by simp [modOk, awG]⟩ rfl
theorem aw_m : mErr awF awM = 0 := mErr_zero.2 ⟨aw_f, matErr_zero.2 ⟨by simp [sizeBad, awM], not_ragged (by simp [awM]), not_badRow (by decide +kernel)⟩⟩
theorem aw_s : mErr awG awS = 0 := mErr_zero.2 ⟨aw_g, matErr_zero.2 ⟨by simp [sizeBad, awS], not_ragged (by simp [awS]), not_badRow (by decide +kernel)⟩⟩
theorem aw_bad : mErr awF awS = 2 := by
  rw [mErr_ok aw_f]
  exact matErr_row (by simp [sizeBad, awS]) (not_ragged (by simp [awS])) ⟨[1, 2], by simp [awS], by decide +kernel⟩
theorem aw_can : canM awF awM = ⟨3, [[1, 0, 1], [0, 1, 1]]⟩ := by
  rw [canM_ok aw_m]
  exact congrArg (Mat.mk 3) (show canR (canX awF awM) = _ by decide +kernel)
theorem aw_piv : canP awF awM = [0, 1] := by
  rw [canP_ok aw_m]
  decide +kernel
theorem aw_ker : kerM awF awM = ⟨3, [[1, 1, 1]]⟩ := by
  rw [kerM_ok aw_m]
  exact congrArg (Mat.mk 3) (show nullR awF awM.rows awM.cols = _ by decide +kernel)
theorem aw_sq : sqErr awG awS = 0 := sqErr_ok aw_s (by simp [awS])
theorem aw_det : detV awG awS = 3 := by
  rw [detV_ok aw_sq (by decide +kernel)]
  decide +kernel
theorem aw_inv0 : invE awG awS = 0 := invE_ok aw_sq (by decide +kernel)
theorem aw_inv : invM awG awS = ⟨2, [[3, 1], [4, 2]]⟩ := by
  rw [invM_ok aw_inv0]
  exact congrArg (Mat.mk 2) (show (traX awG awS).Y = _ by decide +kernel)
theorem aw_vec0 : vecE awG [1, 1] awS = 0 := by rw [vecE_ok aw_s]; decide +kernel
theorem aw_vec : vecV awG [1, 1] awS = [4, 1] := by
  rw [vecV_ok aw_vec0]; decide +kernel
theorem aw_sol0 : solE awG awS [3, 2] = 0 := by
  refine solE_ok (by rw [sErr_ok aw_s]; decide +kernel) ?_
  unfold offR; decide +kernel
theorem aw_sol : solV awG awS [3, 2] = [1, 1] := by
  rw [solV_ok aw_sol0]; decide +kernel
end Go.Cw

