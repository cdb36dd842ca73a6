/-
  Facts for the law MatrixProducts.
-/
import Derived.Test.YtamhdlkfhhpdpaaPlainSt
set_option linter.unusedVariables false
set_option linter.unusedSimpArgs false
set_option linter.unusedSectionVars false
namespace Go.Cw
def catL (l : List (List Int)) : List Int := l.flatten
theorem cat_succ {l : List (List Int)} {i : Int} (h0 : 0 ≤ i) (h1 : i < l.length) : catL (l.take (i + 1).toNat) = catL (l.take i.toNat) ++ ix [] l i := by
  unfold catL; rw [take_succ_ix [] l h0 h1]; simp
theorem cat_two (x y : List Int) : catL [x, y] = x ++ y := by simp [catL]
theorem cat_le (l : List (List Int)) (n : Nat) : (catL (l.take n)).length ≤ (catL l).length := by
  have e : catL l = catL (l.take n) ++ catL (l.drop n) := by
    unfold catL; rw [← List.flatten_append, List.take_append_drop]
  rw [e, List.length_append]; omega
end Go.Cw

