/-
  Eliminations over the field.
-/
import Derived.Test.YtamhdlkfhhpdpaaPlainEl
import Derived.Test.YtamhdlkfhhpdpaaPlainDet
set_option linter.unusedVariables false
set_option linter.unusedSimpArgs false
set_option linter.unusedSectionVars false
namespace Go.Cw
section
variable {f : Fld} (h : FOk f)
noncomputable def kv (v : List Int) : Nat → KF f h := fun j => ke h (v.getD j 0)
noncomputable def km (X : List (List Int)) : Nat → Nat → KF f h := fun i => kv h (X.getD i [])
theorem kv_out {v : List Int} {j : Nat} (hj : v.length ≤ j) : kv h v j = 0 := by
  unfold kv
  rw [show v.getD j 0 = 0 by simp only [List.getD]; rw [List.getElem?_eq_none hj]; rfl]
  exact ke_zero h
theorem ix_nat {α : Type} (d : α) (l : List α) (i : Nat) : ix d l (i : Int) = l.getD i d := by simp [ix]
theorem kv_ix (v : List Int) (j : Nat) : kv h v j = ke h (ix 0 v j) := by rw [ix_nat]; rfl
theorem kv_addTo {v u : List Int} (hl : u.length ≤ v.length) (a : Int) (j : Nat) : kv h (addTo f v a u) j = kv h v j + ke h a * kv h u j := by
  by_cases hj : j < v.length
  · rw [kv_ix, ix_addTo f v a u (by omega) (by omega), kv_ix h v, kv_ix h u]
    split
    · rename_i e; rw [e, ke_zero, Fi.mul_zero, Fi.add_zero]
    · rw [ke_add, ke_mul]
  · rw [kv_out h (by rw [length_addTo]; omega), kv_out h (v := v) (by omega), kv_out h (v := u) (by omega), Fi.mul_zero, Fi.add_zero]
end
section
variable {f : Fld} (h : FOk f)
end
end Go.Cw

