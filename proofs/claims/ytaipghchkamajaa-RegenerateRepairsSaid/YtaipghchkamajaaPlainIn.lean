/-
  Plain facts.
-/
import Derived.Test.YtaipghchkamajaaPlainDv
import Derived.Test.YtaipghchkamajaaPlainTr
set_option linter.unusedVariables false
set_option linter.unusedSimpArgs false
set_option linter.unusedSectionVars false
namespace Go.Cw
section
variable {f : Fld} {m : Mat} (hm : mErr f m = 0)
include hm
end
namespace La
variable {K : Type} [Fi K]
end La
section
variable {f : Fld} (h : FOk f)
variable {m : Mat}
end
/-- What the law on recorded eliminations asks. -/
structure TraG (f : Fld) (m : Mat) : Prop where
  t : mErr f (traT f m) = 0
  p : mulE f (traT f m) m = 0
  pr : mulV f (traT f m) m = traR f m
  k : invE f (traT f m) = 0
/-- What the law on inverses asks. -/
structure InvG (f : Fld) (m : Mat) : Prop where
  eT : invM f m = ⟨m.cols, (traX f m).Y⟩
  t : mErr f (invM f m) = 0
  x : mulE f (invM f m) m = 0
  y : mulE f m (invM f m) = 0
  xr : (mulV f (invM f m) m).rows = uni m.cols
  yr : (mulV f m (invM f m)).rows = uni m.cols
  d : detV f m ≠ 0
end Go.Cw

