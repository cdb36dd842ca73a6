/-
  Facts for the law MatrixInverse.
-/
import Derived.Test.YtamhdlkfhhpdpaaPlainV
set_option linter.unusedVariables false
set_option linter.unusedSimpArgs false
set_option linter.unusedSectionVars false
namespace Go.Cw
theorem ix_take (l : List Int) {k i : Int} (h0 : 0 ≤ i) (h1 : i < k) : ix 0 (l.take k.toNat) i = ix 0 l i := by
  unfold ix
  simp only [List.getD]
  rw [List.getElem?_take, if_pos (by omega)]
end Go.Cw

