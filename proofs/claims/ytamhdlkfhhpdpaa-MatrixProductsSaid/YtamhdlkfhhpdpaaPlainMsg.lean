/-
  Facts for the law MatrixProducts.
-/
import Derived.Test.YtamhdlkfhhpdpaaPlainMx
set_option linter.unusedVariables false
set_option linter.unusedSimpArgs false
set_option linter.unusedSectionVars false
namespace Go.Cw
def mkM (R C : Int) (g : Int → Int → Int) : List (List Int) := mapR (fun i => mapR (fun j => g i j) C) R
@[simp] theorem length_mkM (R C : Int) (g : Int → Int → Int) : (mkM R C g).length = R.toNat := length_mapR _ _
theorem ix_mkM {R C : Int} (g : Int → Int → Int) {i : Int} (h0 : 0 ≤ i) (h1 : i < R) : ix [] (mkM R C g) i = mapR (fun j => g i j) C := ix_mapR [] _ h0 h1
end Go.Cw

