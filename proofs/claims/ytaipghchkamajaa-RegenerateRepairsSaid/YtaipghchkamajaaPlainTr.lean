/-
  Plain facts.
-/
import Derived.Test.YtaipghchkamajaaPlainSl
set_option linter.unusedVariables false
set_option linter.unusedSimpArgs false
set_option linter.unusedSectionVars false
namespace Go.Cw
/-- Rows continued by other rows. -/
def zipR (X Y : List (List Int)) : List (List Int) := mapR (fun i => ix [] X i ++ ix [] Y i) X.length
@[simp] theorem length_zipR (X Y : List (List Int)) : (zipR X Y).length = X.length := by unfold zipR; rw [length_mapR]; omega
end Go.Cw

