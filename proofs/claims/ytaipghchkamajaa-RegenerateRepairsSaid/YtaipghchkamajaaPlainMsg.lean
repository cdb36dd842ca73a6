/-
  Plain facts.
-/
import Derived.Test.YtaipghchkamajaaPlainMx
set_option linter.unusedVariables false
set_option linter.unusedSimpArgs false
set_option linter.unusedSectionVars false
namespace Go.Cw
def mkM (R C : Int) (g : Int → Int → Int) : List (List Int) := mapR (fun i => mapR (fun j => g i j) C) R
@[simp] theorem length_mkM (R C : Int) (g : Int → Int → Int) : (mkM R C g).length = R.toNat := length_mapR _ _
end Go.Cw

