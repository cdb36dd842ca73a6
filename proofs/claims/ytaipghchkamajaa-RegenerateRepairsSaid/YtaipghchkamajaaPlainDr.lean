/-
  Plain facts.
-/
import Derived.Test.YtaipghchkamajaaPlainIn
set_option linter.unusedVariables false
set_option linter.unusedSimpArgs false
set_option linter.unusedSectionVars false
namespace Go.Cw
/-- The rows behind the first, without column c. -/
def minorL (rows : List (List Int)) (c : Int) : List (List Int) := (rows.drop 1).map fun row => row.take c.toNat ++ row.drop (c + 1).toNat
@[simp] theorem length_minorL (rows : List (List Int)) (c : Int) : (minorL rows c).length = rows.length - 1 := by simp [minorL]
section
variable {f : Fld} (h : FOk f)
end
end Go.Cw

