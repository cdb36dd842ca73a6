/-
  Plain facts.
-/
import Derived.Test.YtfjhbdfgbpcchaaPlainP
set_option linter.unusedVariables false
set_option linter.unusedSimpArgs false
set_option linter.unusedSectionVars false
namespace Go.Cw
namespace Cnv
variable {c : Cnv}
end Cnv
end Go.Cw
namespace Go.Cw
end Go.Cw
