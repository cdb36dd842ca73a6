/-
  Facts for the law MatrixProducts.
-/
import Derived.Test.YtamhdlkfhhpdpaaPlainCa
set_option linter.unusedVariables false
set_option linter.unusedSimpArgs false
set_option linter.unusedSectionVars false
namespace Go.Cw
section
variable {f : Fld} (h : FOk f)
theorem km_at {X : List (List Int)} {i : Nat} : km h X i = kv h (ix [] X i) := by rw [ix_nat]; rfl
end
def dots (f : Fld) (rows : List (List Int)) (x : List Int) : List Int := rows.map fun row => dotF f row x
@[simp] theorem length_dots (f : Fld) (rows : List (List Int)) (x : List Int) : (dots f rows x).length = rows.length := by simp [dots]
section
variable {f : Fld} {n : Nat} {X : List (List Int)} {x : List Int}
end
/-- What the law on solvable systems asks. -/
structure SolF (f : Fld) (m : Mat) (x : List Int) : Prop where
  err : solE f m (dots f m.rows x) = 0
  len : ((solV f m (dots f m.rows x)).length : Int) = m.cols
  dot : ∀ q : Int, 0 ≤ q → q < m.rows.length → dotF f (ix [] m.rows q) (solV f m (dots f m.rows x)) = ix 0 (dots f m.rows x) q
  sup : ∀ i : Int, 0 ≤ i → ix 0 (solV f m (dots f m.rows x)) i ≠ 0 → i ∈ canP f m
end Go.Cw
namespace Go.Cw
end Go.Cw

