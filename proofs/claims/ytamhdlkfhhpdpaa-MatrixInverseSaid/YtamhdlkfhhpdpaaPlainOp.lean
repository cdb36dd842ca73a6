/-
  Facts for the law MatrixInverse.
-/
import Derived.Test.YtamhdlkfhhpdpaaPlainMm
set_option linter.unusedVariables false
set_option linter.unusedSimpArgs false
set_option linter.unusedSectionVars false
namespace Go.Cw
theorem twoErr_zero {f : Fld} {a b : Mat} : twoErr f a b = 0 ↔ mErr f a = 0 ∧ mErr f b = 0 := by
  unfold twoErr
  split
  · rename_i h; simp [h]
  · rename_i h; simp [h]
theorem two_mem {f : Fld} {a b : Mat} (h : twoErr f a b = 0) : ∀ m ∈ [a, b], matErr f m = 0 := by
  obtain ⟨h1, h2⟩ := twoErr_zero.1 h
  intro m hm
  simp only [List.mem_cons, List.not_mem_nil, or_false] at hm
  rcases hm with rfl | rfl
  · exact (mErr_zero.1 h1).2
  · exact (mErr_zero.1 h2).2
theorem mulE_no {f : Fld} {a b : Mat} (h : twoErr f a b ≠ 0) : mulE f a b = twoErr f a b := if_neg h
theorem mulE_bad {f : Fld} {a b : Mat} (h : twoErr f a b = 0) (h2 : a.cols ≠ b.rows.length) : mulE f a b = 10 := by unfold mulE; rw [if_pos h, if_pos h2]
theorem mulE_ok {f : Fld} {a b : Mat} (h : twoErr f a b = 0) (h2 : ¬ a.cols ≠ b.rows.length) : mulE f a b = 0 := by unfold mulE; rw [if_pos h, if_neg h2]
theorem mulV_ok {f : Fld} {a b : Mat} (h : mulE f a b = 0) : mulV f a b = mulM f a b := if_pos h
theorem mulV_no {f : Fld} {a b : Mat} (h : mulE f a b ≠ 0) : mulV f a b = Mat.no := if_neg h
def colC (rows : List (List Int)) (j : Int) : List Int := rows.map fun row => ix 0 row j
@[simp] theorem length_colC (rows : List (List Int)) (j : Int) : (colC rows j).length = rows.length := by simp [colC]
/-- What the law on products asks, in the words of the program's functions. -/
structure RingG (f : Fld) (a b : Mat) : Prop where
  s : mErr f a = 0
  t : mErr f b = 0
  p : mErr f (mulV f a b) = 0
  r : mulE f (turM f b) (turM f a) = 0
  x : mulE f (mulV f a b) (turM f b) = 0
  y : mulE f b (turM f b) = 0
  z : mulE f a (mulV f b (turM f b)) = 0
  q : turM f (mulV f a b) = mulV f (turM f b) (turM f a)
  xz : mulV f (mulV f a b) (turM f b) = mulV f a (mulV f b (turM f b))
  m1 : (canP f (mulV f a b)).length ≤ (canP f a).length
  m2 : (canP f (mulV f a b)).length ≤ (canP f b).length
theorem mulE_in {f : Fld} {a b : Mat} (ha : mErr f a = 0) (hb : mErr f b = 0) (h : a.cols = b.rows.length) : mulE f a b = 0 := mulE_ok (twoErr_zero.2 ⟨ha, hb⟩) (fun hn => hn h)
end Go.Cw

