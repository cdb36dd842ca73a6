/-
  Walks of functions of the program and the reference.
-/
import Derived.Test.YtfjhbdfgbpcchaaPlainJ3
import Derived.Test.YtfjhbdfgbpcchaaCjLib
import Derived.Test.YtfjhbdfgbpcchaaV16
import Derived.Test.YtfjhbdfgbpcchaaV17
import Derived.Test.YtfjhbdfgbpcchaaV18
open Go Go.Cw
namespace Go.Proofs.Ytfjhbdfgbpcchaa
set_option maxRecDepth 100000
set_option linter.unusedVariables false
set_option linter.unusedSimpArgs false

end Go.Proofs.Ytfjhbdfgbpcchaa

