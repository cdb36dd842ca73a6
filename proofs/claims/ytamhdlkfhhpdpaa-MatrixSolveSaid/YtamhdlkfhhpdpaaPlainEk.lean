/-
  Eliminations over the field.
-/
import Derived.Test.YtamhdlkfhhpdpaaPlainEl
import Derived.Test.YtamhdlkfhhpdpaaPlainDet
set_option linter.unusedVariables false
set_option linter.unusedSimpArgs false
set_option linter.unusedSectionVars false
namespace Go.Cw
section
variable {f : Fld} (h : FOk f)
end
section
variable {f : Fld} (h : FOk f)
end
end Go.Cw

