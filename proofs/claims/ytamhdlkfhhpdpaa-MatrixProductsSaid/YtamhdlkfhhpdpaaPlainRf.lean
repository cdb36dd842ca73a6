/-
  The reference's elimination.
-/
import Derived.Test.YtamhdlkfhhpdpaaPlainMt
set_option linter.unusedVariables false
set_option linter.unusedSimpArgs false
set_option linter.unusedSectionVars false
namespace Go.Cw
theorem fewGo_step {l : List (List Int)} {i left : Int} (h0 : 0 ≤ i) (h1 : i < l.length) : fewGo (l.drop i.toNat) left = if left < (ix [] l i).length then false else fewGo (l.drop (i + 1).toNat) (left - (ix [] l i).length) := by
  have hg := ix_get [] l i h0 h1
  rw [List.drop_eq_getElem_cons (show i.toNat < l.length by omega), show (i + 1).toNat = i.toNat + 1 by omega]
  have hx : l[i.toNat]'(by omega) = ix [] l i := by rw [List.getElem?_eq_getElem (by omega)] at hg; exact Option.some.inj hg
  rw [hx]
  rfl
instance : DecidableEq Mat := fun a b => decidable_of_iff (a.cols = b.cols ∧ a.rows = b.rows) (by cases a; cases b; simp)
theorem same_eq (a b : Mat) [Decidable (a.cols = b.cols ∧ a.rows = b.rows)] : decide (a.cols = b.cols ∧ a.rows = b.rows) = decide (a = b) :=
  decide_eq_decide.2 (by cases a; cases b; simp)
end Go.Cw

