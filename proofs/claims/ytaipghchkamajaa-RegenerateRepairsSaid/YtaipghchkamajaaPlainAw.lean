/-
  Plain facts.
-/
import Derived.Test.YtaipghchkamajaaPlainRf
set_option linter.unusedVariables false
set_option linter.unusedSimpArgs false
set_option linter.unusedSectionVars false
namespace Go.Cw
end Go.Cw

