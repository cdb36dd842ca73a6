/-
  Facts for the law MatrixProducts.
-/
import Derived.Test.YtamhdlkfhhpdpaaPlainT
set_option linter.unusedVariables false
set_option linter.unusedSimpArgs false
set_option linter.unusedSectionVars false
namespace Go.Cw
namespace Shape
variable {f : Fld}
/-- The residue of a code, of 0 outside. -/
def e (f : Fld) (x : Int) : f.R.V := f.R.elt (inF f x)
theorem e_inj (h : Shape f) {x y : Int} (h0 : 0 ≤ x) (h1 : x < f.q) (g0 : 0 ≤ y) (g1 : y < f.q) (he : e f x = e f y) : x = y := by
  have hc : (f.p : Int) ^ f.R.m = f.q := card h
  unfold e at he
  rw [inF_id h0 h1, inF_id g0 g1] at he
  rw [← Rg.num_elt f.R h0 (by rw [hc]; exact h1), ← Rg.num_elt f.R g0 (by rw [hc]; exact g1), he]
theorem e_add (h : Shape f) (x y : Int) : e f (addF f x y) = f.R.vadd (e f x) (e f y) := by
  have := addF_lt h x y
  unfold e
  rw [inF_id this.1 this.2]
  exact Rg.elt_addc f.R _ _
theorem e_mul (h : Shape f) (x y : Int) : e f (mulF f x y) = f.R.mul (e f x) (e f y) := by
  have := mulF_lt h x y
  unfold e
  rw [inF_id this.1 this.2]
  exact Rg.elt_mulc f.R _ _
theorem e_zero (h : Shape f) : e f 0 = f.R.vzero := by
  have := h.bd
  unfold e
  rw [inF_id (by omega) (by omega)]
  exact Rg.elt_zero f.R
end Shape
end Go.Cw

