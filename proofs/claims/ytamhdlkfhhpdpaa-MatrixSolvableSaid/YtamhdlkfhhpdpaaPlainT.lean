/-
  Facts for the law MatrixSolvable.
-/
import Derived.Test.YtamhdlkfhhpdpaaPlainV
set_option linter.unusedVariables false
set_option linter.unusedSimpArgs false
set_option linter.unusedSectionVars false
namespace Go.Cw
theorem ix_replicate0 (n : Nat) (i : Int) : ix 0 (List.replicate n (0 : Int)) i = 0 := by
  unfold ix
  simp only [List.getD, List.getElem?_replicate]
  split <;> rfl
end Go.Cw

