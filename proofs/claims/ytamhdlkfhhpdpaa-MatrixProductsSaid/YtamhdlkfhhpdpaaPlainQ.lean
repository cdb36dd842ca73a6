/-
  Facts for the law MatrixProducts.
-/
import Derived.Test.YtamhdlkfhhpdpaaPlainU
set_option linter.unusedVariables false
set_option linter.unusedSimpArgs false
set_option linter.unusedSectionVars false
namespace Go.Cw
abbrev KF (f : Fld) (h : FOk f) : Type := Rg.Kt f.R h.field
noncomputable def ke {f : Fld} (h : FOk f) (x : Int) : KF f h := ⟨Shape.e f x, Rg.elt_el f.R _⟩
section
variable {f : Fld} (h : FOk f)
theorem ke_inj {x y : Int} (h0 : 0 ≤ x) (h1 : x < f.q) (g0 : 0 ≤ y) (g1 : y < f.q) (e : ke h x = ke h y) : x = y := Shape.e_inj h.1 h0 h1 g0 g1 (congrArg Rg.Kt.v e)
theorem ke_add (x y : Int) : ke h (addF f x y) = ke h x + ke h y := Rg.Kt.ext (Shape.e_add h.1 x y)
theorem ke_mul (x y : Int) : ke h (mulF f x y) = ke h x * ke h y := Rg.Kt.ext (Shape.e_mul h.1 x y)
theorem ke_zero : ke h 0 = 0 := Rg.Kt.ext (Shape.e_zero h.1)
theorem ke_one : ke h 1 = 1 := by
  apply Rg.Kt.ext
  show Shape.e f 1 = f.R.e0
  have := h.1.bd
  unfold Shape.e
  rw [inF_id (by omega) (by omega)]
  exact Rg.elt_one f.R
end
/-- v plus a times u. -/
def addTo1 (f : Fld) (x a y : Int) : Int := if y = 0 then x else addF f x (mulF f a y)
def addToL (f : Fld) (v : List Int) (a : Int) (u : List Int) : List Int := mapR (fun i => addTo1 f (ix 0 v i) a (ix 0 u i)) v.length
@[simp] theorem length_addToL (f : Fld) (v : List Int) (a : Int) (u : List Int) : (addToL f v a u).length = v.length := by unfold addToL; rw [length_mapR]; omega
theorem outF_mapR {f : Fld} {g : Int → Int} {n : Int} (h : ∀ i, 0 ≤ i → i < n → 0 ≤ g i ∧ g i < f.q) : ¬ outF f (mapR g n) := by
  rintro ⟨x, hx, hb⟩
  unfold mapR at hx
  obtain ⟨i, hi, rfl⟩ := List.mem_map.1 hx
  rw [List.mem_range] at hi
  exact hb (h i (by omega) (by omega))
theorem ix_ok {f : Fld} (hS : Shape f) {l : List Int} (h : ¬ outF f l) (i : Int) : 0 ≤ ix 0 l i ∧ ix 0 l i < f.q := by
  have hb := hS.bd
  by_cases g : i.toNat < l.length
  · have := outF_no h (x := ix 0 l i) (by unfold ix; simp [List.getD, g])
    exact this
  · have : ix 0 l i = 0 := by unfold ix; simp [List.getD]; rw [List.getElem?_eq_none (by omega)]; rfl
    rw [this]; omega
end Go.Cw

