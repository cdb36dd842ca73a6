/-
  Plain facts.
-/
import Derived.Test.YtaipghchkamajaaPlainOp
set_option linter.unusedVariables false
set_option linter.unusedSimpArgs false
set_option linter.unusedSectionVars false
namespace Go.Cw
namespace La
variable {K : Type} [Fi K]
/-- Reduced rows decide. -/
theorem Rref.rows {A : Nat → Nat → K} {n r : Nat} {p : Nat → Nat} (hA : Rref A n n p r) : Rows n A (if r < n then 0 else 1) := by
  intro G g
  split
  · rename_i h
    rw [Fi.zero_mul]
    exact g.zero (p := r) h fun j hj => hA.rest r j (Nat.le_refl _) h hj
  · have e : r = n := by have := hA.le; omega
    subst e
    rw [Fi.one_mul]
    exact g.congr fun i j hi hj => hA.full.2 i j hi hj
end La
section
variable {f : Fld} (h : FOk f)
end
/-- What the law on determinants asks. -/
structure DetG (f : Fld) (a b : Mat) : Prop where
  q1 : sqErr f a = 0
  q2 : sqErr f b = 0
  e : mulE f a b = 0
  q3 : sqErr f (mulV f a b) = 0
  q4 : sqErr f (turM f a) = 0
  x : 0 ≤ detV f a ∧ detV f a < f.q
  y : 0 ≤ detV f b ∧ detV f b < f.q
  z : detV f (mulV f a b) = mulF f (detV f a) (detV f b)
  u : detV f (turM f a) = detV f a
  q5 : 2 ≤ a.rows.length → sqErr f ⟨a.cols, swp [] a.rows 0 1⟩ = 0
  v : 2 ≤ a.rows.length → detV f ⟨a.cols, swp [] a.rows 0 1⟩ = negF f (detV f a)
end Go.Cw

