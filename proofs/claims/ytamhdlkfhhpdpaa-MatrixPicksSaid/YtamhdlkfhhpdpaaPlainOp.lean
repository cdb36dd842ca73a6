/-
  Facts for the law MatrixPicks.
-/
import Derived.Test.YtamhdlkfhhpdpaaPlainMm
set_option linter.unusedVariables false
set_option linter.unusedSimpArgs false
set_option linter.unusedSectionVars false
namespace Go.Cw
theorem colE_no {f : Fld} {m : Mat} {set : List Int} (h : mErr f m ≠ 0) : colE f m set = mErr f m := if_neg h
theorem colE_big {f : Fld} {m : Mat} {set : List Int} (h : mErr f m = 0) (h2 : 256 < (set.length : Int)) : colE f m set = 8 := by unfold colE; rw [if_pos h, if_pos (by omega)]
theorem colE_out {f : Fld} {m : Mat} {set : List Int} (h : mErr f m = 0) (h2 : ¬ 256 < (set.length : Int)) {i : Int} (i0 : 0 ≤ i) (i1 : i < set.length) (h3 : ix 0 set i < 0 ∨ m.cols ≤ ix 0 set i) : colE f m set = 6 := by
  unfold colE; rw [if_pos h, if_neg (by omega), if_pos ⟨_, ix_mem 0 set i0 i1, h3⟩]
theorem colE_ok {f : Fld} {m : Mat} {set : List Int} (h : mErr f m = 0) (h2 : ¬ 256 < (set.length : Int)) (h3 : ∀ j ∈ set, ¬ (j < 0 ∨ m.cols ≤ j)) : colE f m set = 0 := by
  unfold colE; rw [if_pos h, if_neg (by omega), if_neg fun ⟨j, hj, hn⟩ => h3 j hj hn]
theorem colM_ok {f : Fld} {m : Mat} {set : List Int} (h : colE f m set = 0) : colM f m set = ⟨set.length, m.rows.map fun row => pickL row set⟩ := if_pos h
theorem colM_no {f : Fld} {m : Mat} {set : List Int} (h : colE f m set ≠ 0) : colM f m set = Mat.no := if_neg h
theorem ideE_bad {n : Int} (h : n < 0 ∨ 256 < n) : ideE n = 6 := if_pos h
theorem ideE_ok {n : Int} (h : ¬ (n < 0 ∨ 256 < n)) : ideE n = 0 := if_neg h
theorem ideM_bad {n : Int} (h : n < 0 ∨ 256 < n) : ideM n = Mat.no := if_neg (by rw [ideE_bad h]; decide)
theorem ideM_ok {n : Int} (h : ¬ (n < 0 ∨ 256 < n)) : ideM n = ⟨n, uni n⟩ := if_pos (ideE_ok h)
def colC (rows : List (List Int)) (j : Int) : List Int := rows.map fun row => ix 0 row j
@[simp] theorem length_colC (rows : List (List Int)) (j : Int) : (colC rows j).length = rows.length := by simp [colC]
/-- What the law on products asks, in the words of the program's functions. -/
structure RingG (f : Fld) (a b : Mat) : Prop where
  s : mErr f a = 0
  t : mErr f b = 0
  p : mErr f (mulV f a b) = 0
  r : mulE f (turM f b) (turM f a) = 0
  x : mulE f (mulV f a b) (turM f b) = 0
  y : mulE f b (turM f b) = 0
  z : mulE f a (mulV f b (turM f b)) = 0
  q : turM f (mulV f a b) = mulV f (turM f b) (turM f a)
  xz : mulV f (mulV f a b) (turM f b) = mulV f a (mulV f b (turM f b))
  m1 : (canP f (mulV f a b)).length ≤ (canP f a).length
  m2 : (canP f (mulV f a b)).length ≤ (canP f b).length
end Go.Cw

