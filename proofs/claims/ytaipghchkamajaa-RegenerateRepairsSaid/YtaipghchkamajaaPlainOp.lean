/-
  Plain facts.
-/
import Derived.Test.YtaipghchkamajaaPlainMm
set_option linter.unusedVariables false
set_option linter.unusedSimpArgs false
set_option linter.unusedSectionVars false
namespace Go.Cw
def colC (rows : List (List Int)) (j : Int) : List Int := rows.map fun row => ix 0 row j
@[simp] theorem length_colC (rows : List (List Int)) (j : Int) : (colC rows j).length = rows.length := by simp [colC]
/-- What the law on products asks, in the words of the program's functions. -/
structure RingG (f : Fld) (a b : Mat) : Prop where
  s : mErr f a = 0
  t : mErr f b = 0
  p : mErr f (mulV f a b) = 0
  r : mulE f (turM f b) (turM f a) = 0
  x : mulE f (mulV f a b) (turM f b) = 0
  y : mulE f b (turM f b) = 0
  z : mulE f a (mulV f b (turM f b)) = 0
  q : turM f (mulV f a b) = mulV f (turM f b) (turM f a)
  xz : mulV f (mulV f a b) (turM f b) = mulV f a (mulV f b (turM f b))
  m1 : (canP f (mulV f a b)).length ≤ (canP f a).length
  m2 : (canP f (mulV f a b)).length ≤ (canP f b).length
end Go.Cw

