/-
  Facts for the law MatrixProducts.
-/
import Derived.Test.YtamhdlkfhhpdpaaPlainMm
set_option linter.unusedVariables false
set_option linter.unusedSimpArgs false
set_option linter.unusedSectionVars false
namespace Go.Cw
theorem twoErr_zero {f : Fld} {a b : Mat} : twoErr f a b = 0 ↔ mErr f a = 0 ∧ mErr f b = 0 := by
  unfold twoErr
  split
  · rename_i h; simp [h]
  · rename_i h; simp [h]
theorem two_mem {f : Fld} {a b : Mat} (h : twoErr f a b = 0) : ∀ m ∈ [a, b], matErr f m = 0 := by
  obtain ⟨h1, h2⟩ := twoErr_zero.1 h
  intro m hm
  simp only [List.mem_cons, List.not_mem_nil, or_false] at hm
  rcases hm with rfl | rfl
  · exact (mErr_zero.1 h1).2
  · exact (mErr_zero.1 h2).2
theorem mulE_no {f : Fld} {a b : Mat} (h : twoErr f a b ≠ 0) : mulE f a b = twoErr f a b := if_neg h
theorem mulE_bad {f : Fld} {a b : Mat} (h : twoErr f a b = 0) (h2 : a.cols ≠ b.rows.length) : mulE f a b = 10 := by unfold mulE; rw [if_pos h, if_pos h2]
theorem mulE_ok {f : Fld} {a b : Mat} (h : twoErr f a b = 0) (h2 : ¬ a.cols ≠ b.rows.length) : mulE f a b = 0 := by unfold mulE; rw [if_pos h, if_neg h2]
theorem mulV_ok {f : Fld} {a b : Mat} (h : mulE f a b = 0) : mulV f a b = mulM f a b := if_pos h
theorem mulV_no {f : Fld} {a b : Mat} (h : mulE f a b ≠ 0) : mulV f a b = Mat.no := if_neg h
theorem turM_ok {f : Fld} {m : Mat} (h : mErr f m = 0) : turM f m = ⟨m.rows.length, turnL m.rows m.cols⟩ := if_pos h
theorem turM_no {f : Fld} {m : Mat} (h : mErr f m ≠ 0) : turM f m = Mat.no := if_neg h
theorem besE_no {f : Fld} {a b : Mat} (h : twoErr f a b ≠ 0) : besE f a b = twoErr f a b := if_neg h
theorem besE_bad {f : Fld} {a b : Mat} (h : twoErr f a b = 0) (h2 : (a.rows.length : Int) ≠ b.rows.length) : besE f a b = 10 := by unfold besE; rw [if_pos h, if_pos (by omega)]
theorem besE_big {f : Fld} {a b : Mat} (h : twoErr f a b = 0) (h2 : ¬ (a.rows.length : Int) ≠ b.rows.length) (h3 : 256 < a.cols + b.cols) : besE f a b = 8 := by unfold besE; rw [if_pos h, if_neg (by omega), if_pos h3]
theorem besE_ok {f : Fld} {a b : Mat} (h : twoErr f a b = 0) (h2 : ¬ (a.rows.length : Int) ≠ b.rows.length) (h3 : ¬ 256 < a.cols + b.cols) : besE f a b = 0 := by unfold besE; rw [if_pos h, if_neg (by omega), if_neg h3]
theorem besM_ok {f : Fld} {a b : Mat} (h : besE f a b = 0) : besM f a b = ⟨a.cols + b.cols, mapR (fun i => ix [] a.rows i ++ ix [] b.rows i) a.rows.length⟩ := if_pos h
theorem besM_no {f : Fld} {a b : Mat} (h : besE f a b ≠ 0) : besM f a b = Mat.no := if_neg h
def colC (rows : List (List Int)) (j : Int) : List Int := rows.map fun row => ix 0 row j
@[simp] theorem length_colC (rows : List (List Int)) (j : Int) : (colC rows j).length = rows.length := by simp [colC]
theorem ix_colC (rows : List (List Int)) (j : Int) {i : Int} (h0 : 0 ≤ i) (h1 : i < rows.length) : ix 0 (colC rows j) i = ix 0 (ix [] rows i) j := by
  unfold colC; exact ix_map _ rows [] 0 h0 h1
theorem turnL_ix (rows : List (List Int)) {cols j : Int} (h0 : 0 ≤ j) (h1 : j < cols) : ix [] (turnL rows cols) j = colC rows j := by
  unfold turnL; rw [ix_mapR [] _ h0 h1]; rfl
theorem turnL_succ (rows : List (List Int)) {cols j : Int} (h0 : 0 ≤ j) (h1 : j < cols) : (turnL rows cols).take (j + 1).toNat = (turnL rows cols).take j.toNat ++ [colC rows j] := by
  rw [take_succ_ix [] (turnL rows cols) h0 (by rw [length_turnL]; omega), turnL_ix rows h0 h1]
theorem turnL_ent {X : List (List Int)} {rows : List (List Int)} {i j : Int} (j0 : 0 ≤ j) (j1 : j < X.length) (i0 : 0 ≤ i) (i1 : i < rows.length) :
    X.set j.toNat (mixL (colC rows j) (List.replicate rows.length 0) (i + 1)) = (X.set j.toNat (mixL (colC rows j) (List.replicate rows.length 0) i)).set j.toNat ((ix [] (X.set j.toNat (mixL (colC rows j) (List.replicate rows.length 0) i)) j).set i.toNat (ix 0 (ix [] rows i) j)) := by
  rw [set_set_ix _ _ _ _ j0 j1, mixL_set (colC rows j) _ i0 (by simpa using i1) (by simp) (ix_colC rows j i0 i1).symm]
theorem turnL_mix {rows : List (List Int)} {cols i j : Int} (j0 : 0 ≤ j) (j1 : j < cols) (hi : (rows.length : Int) ≤ i) :
    mixG (turnL rows cols) (List.replicate cols.toNat []) (j + 1) = (mixG (turnL rows cols) (List.replicate cols.toNat []) j).set j.toNat (mixL (colC rows j) (List.replicate rows.length 0) i) := by
  rw [mixL_all (colC rows j) _ (by simpa using hi) (by simpa using hi), ← turnL_ix rows j0 j1]
  exact mixG_set [] (turnL rows cols) _ j0 (by rw [length_turnL]; omega) (by rw [length_turnL]; simp)
/-- What the law on products asks, in the words of the program's functions. -/
structure RingG (f : Fld) (a b : Mat) : Prop where
  s : mErr f a = 0
  t : mErr f b = 0
  p : mErr f (mulV f a b) = 0
  r : mulE f (turM f b) (turM f a) = 0
  x : mulE f (mulV f a b) (turM f b) = 0
  y : mulE f b (turM f b) = 0
  z : mulE f a (mulV f b (turM f b)) = 0
  q : turM f (mulV f a b) = mulV f (turM f b) (turM f a)
  xz : mulV f (mulV f a b) (turM f b) = mulV f a (mulV f b (turM f b))
  m1 : (canP f (mulV f a b)).length ≤ (canP f a).length
  m2 : (canP f (mulV f a b)).length ≤ (canP f b).length
end Go.Cw

