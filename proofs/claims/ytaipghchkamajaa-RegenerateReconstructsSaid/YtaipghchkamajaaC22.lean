/-
  Walks.
-/
import Derived.Test.YtaipghchkamajaaC19
open Go Go.Cw
namespace Go.Proofs.Ytaipghchkamajaa
set_option maxRecDepth 100000
set_option linter.unusedVariables false
set_option linter.unusedSimpArgs false
end Go.Proofs.Ytaipghchkamajaa

