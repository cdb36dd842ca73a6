/-
  Facts for the law MatrixSolve.
-/
import Derived.Test.YtamhdlkfhhpdpaaPlainAw
set_option linter.unusedVariables false
set_option linter.unusedSimpArgs false
set_option linter.unusedSectionVars false
namespace Go.Cw
namespace La
variable {K : Type} [Fi K]
theorem Span.left {A A' : Nat → Nat → K} {m : Nat} {v : Nat → K} (e : ∀ i j, i < m → A i j = A' i j) (h : Span A m v) : Span A' m v := by
  obtain ⟨c, rfl⟩ := h
  exact ⟨c, funext fun j => sm_congr fun i hi => by rw [e i j hi]⟩
end La
section
variable {f : Fld} (h : FOk f)
end
section
variable {f : Fld} {w n : Nat} {X : List (List Int)}
@[simp] theorem length_pickL (row set : List Int) : (pickL row set).length = set.length := by simp [pickL]
end
end Go.Cw
namespace Go.Cw
/-- What the law on reduced matrices asks of a canonical matrix. -/
structure CanF (f : Fld) (m : Mat) : Prop where
  cols : (canM f m).cols = m.cols
  len : (canM f m).rows.length = (canP f m).length
  le : (canP f m).length ≤ m.rows.length
  ok : mErr f (canM f m) = 0
  rng : ∀ i : Int, 0 ≤ i → i < (canP f m).length → 0 ≤ ix 0 (canP f m) i ∧ ix 0 (canP f m) i < m.cols
  inc : ∀ i j : Int, 0 ≤ i → i < j → j < (canP f m).length → ix 0 (canP f m) i < ix 0 (canP f m) j
  ent : ∀ i j : Int, 0 ≤ i → i < (canP f m).length → 0 ≤ j → j < (canP f m).length → ix 0 (ix [] (canM f m).rows j) (ix 0 (canP f m) i) = if j = i then 1 else 0
  lead : ∀ i x : Int, 0 ≤ i → i < (canP f m).length → 0 ≤ x → x < ix 0 (canP f m) i → ix 0 (ix [] (canM f m).rows i) x = 0
  row : ∀ row ∈ m.rows, comb f (pickL row (canP f m)) (canM f m).rows (canM f m).cols = row
  wid : ∀ i : Int, 0 ≤ i → i < (canM f m).rows.length → ((ix [] (canM f m).rows i).length : Int) = m.cols
end Go.Cw
namespace Go.Cw
end Go.Cw

