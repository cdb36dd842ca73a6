/-
  Facts for the law MatrixProducts.
-/
import Derived.Test.YtamhdlkfhhpdpaaPlainR
set_option linter.unusedVariables false
set_option linter.unusedSimpArgs false
set_option linter.unusedSectionVars false
namespace Go.Cw
/-- v plus a times u. -/
def addTo (f : Fld) (v : List Int) (a : Int) (u : List Int) : List Int := mapR (fun i => if ix 0 u i = 0 then ix 0 v i else addF f (ix 0 v i) (mulF f a (ix 0 u i))) v.length
@[simp] theorem length_addTo (f : Fld) (v : List Int) (a : Int) (u : List Int) : (addTo f v a u).length = v.length := by unfold addTo; rw [length_mapR]; omega
theorem ix_addTo (f : Fld) (v : List Int) (a : Int) (u : List Int) {i : Int} (h0 : 0 ≤ i) (h1 : i < v.length) : ix 0 (addTo f v a u) i = if ix 0 u i = 0 then ix 0 v i else addF f (ix 0 v i) (mulF f a (ix 0 u i)) := ix_mapR 0 _ h0 h1
theorem addTo_stay (f : Fld) (v : List Int) (a : Int) (u : List Int) {i : Int} (h0 : 0 ≤ i) (h1 : i < v.length) (h : ix 0 u i = 0) : mixL (addTo f v a u) v i = mixL (addTo f v a u) v (i + 1) := by
  have hl := length_addTo f v a u
  have hi := ix_mixL (addTo f v a u) v h0 h1 hl
  have h2 := mixL_set (addTo f v a u) v (v := ix 0 v i) h0 h1 hl (by rw [ix_addTo f v a u h0 h1, if_pos h])
  rw [← h2]
  apply List.ext_getElem?
  intro j
  rw [List.getElem?_set]
  by_cases hj : i.toNat = j
  · subst hj
    rw [if_pos rfl, if_pos (by rw [length_mixL _ _ hl]; omega)]
    have := ix_get 0 (mixL (addTo f v a u) v i) i h0 (by rw [length_mixL _ _ hl]; exact h1)
    rw [this, hi]
  · rw [if_neg hj]
theorem addTo_set (f : Fld) (v : List Int) (a : Int) (u : List Int) {i : Int} (h0 : 0 ≤ i) (h1 : i < v.length) (h : ix 0 u i ≠ 0) :
    (mixL (addTo f v a u) v i).set i.toNat (addF f (ix 0 (mixL (addTo f v a u) v i) i) (mulF f a (ix 0 u i))) = mixL (addTo f v a u) v (i + 1) := by
  have hl := length_addTo f v a u
  rw [ix_mixL (addTo f v a u) v h0 h1 hl]
  exact mixL_set _ _ h0 h1 hl (by rw [ix_addTo f v a u h0 h1, if_neg h])
theorem addTo_all (f : Fld) (v : List Int) (a : Int) (u : List Int) {i : Int} (h : (v.length : Int) ≤ i) : mixL (addTo f v a u) v i = addTo f v a u := mixL_all _ _ (by simpa using h) h
theorem addTo_set0 (f : Fld) (v : List Int) (a : Int) (u : List Int) {i : Int} (h0 : 0 ≤ i) (h1 : i < v.length) (h : ix 0 u i ≠ 0) :
    mixL (addTo f v a u) (List.replicate v.length 0) (i + 1) = ((mixL (addTo f v a u) (List.replicate v.length 0) i).set i.toNat (ix 0 v i)).set i.toNat (addF f (ix 0 v i) (mulF f a (ix 0 u i))) := by
  rw [List.set_set]
  exact (mixL_set _ _ h0 (by simpa using h1) (by simp) (by rw [ix_addTo f v a u h0 h1, if_neg h])).symm
theorem addTo_stay0 (f : Fld) (v : List Int) (a : Int) (u : List Int) {i : Int} (h0 : 0 ≤ i) (h1 : i < v.length) (h : ix 0 u i = 0) :
    mixL (addTo f v a u) (List.replicate v.length 0) (i + 1) = (mixL (addTo f v a u) (List.replicate v.length 0) i).set i.toNat (ix 0 v i) :=
  (mixL_set _ _ h0 (by simpa using h1) (by simp) (by rw [ix_addTo f v a u h0 h1, if_pos h])).symm
theorem ext_ix {α : Type} (d : α) {a b : List α} (hl : a.length = b.length) (h : ∀ j : Int, 0 ≤ j → j < a.length → ix d a j = ix d b j) : a = b := by
  apply List.ext_getElem?
  intro i
  by_cases hi : i < a.length
  · have h1 := ix_get d a (i : Int) (by omega) (by omega)
    have h2 := ix_get d b (i : Int) (by omega) (by omega)
    rw [Int.toNat_natCast] at h1 h2
    rw [h1, h2, h i (by omega) (by omega)]
  · rw [List.getElem?_eq_none (by omega), List.getElem?_eq_none (by omega)]
/-- The combination of rows, over the first k of them. -/
def combTo (f : Fld) (x : List Int) (rows : List (List Int)) (cols : Int) : Nat → List Int
  | 0 => List.replicate cols.toNat 0
  | k + 1 => if ix 0 x k = 0 then combTo f x rows cols k else addTo f (combTo f x rows cols k) (ix 0 x k) (ix [] rows k)
@[simp] theorem length_combTo (f : Fld) (x : List Int) (rows : List (List Int)) (cols : Int) : ∀ k, (combTo f x rows cols k).length = cols.toNat
  | 0 => by simp [combTo]
  | k + 1 => by
    unfold combTo
    split
    · exact length_combTo f x rows cols k
    · rw [length_addTo]; exact length_combTo f x rows cols k
theorem combTo_stay (f : Fld) (x : List Int) (rows : List (List Int)) (cols : Int) {i : Int} (h0 : 0 ≤ i) (h : ix 0 x i = 0) : combTo f x rows cols i.toNat = combTo f x rows cols (i + 1).toNat := by
  rw [show (i + 1).toNat = i.toNat + 1 by omega]
  conv => rhs; unfold combTo
  rw [if_pos (by rw [show ((i.toNat : Nat) : Int) = i by omega]; exact h)]
theorem combTo_step (f : Fld) (x : List Int) (rows : List (List Int)) (cols : Int) {i : Int} (h0 : 0 ≤ i) (h : ix 0 x i ≠ 0) : addTo f (combTo f x rows cols i.toNat) (ix 0 x i) (ix [] rows i) = combTo f x rows cols (i + 1).toNat := by
  rw [show (i + 1).toNat = i.toNat + 1 by omega]
  conv => rhs; unfold combTo
  rw [show ((i.toNat : Nat) : Int) = i by omega, if_neg h]
def comb (f : Fld) (x : List Int) (rows : List (List Int)) (cols : Int) : List Int := combTo f x rows cols (min x.length rows.length)
theorem length_comb (f : Fld) (x : List Int) (rows : List (List Int)) (cols : Int) : (comb f x rows cols).length = cols.toNat := length_combTo _ _ _ _ _
structure Mat where
  cols : Int
  rows : List (List Int)
def Mat.no : Mat := ⟨0, []⟩
def ragged (m : Mat) : Prop := ∃ l ∈ m.rows, (l.length : Int) ≠ m.cols
def badRow (f : Fld) (m : Mat) : Prop := ∃ l ∈ m.rows, outF f l
def sizeBad (m : Mat) : Prop := (m.cols < 0 ∨ 256 < m.cols) ∨ 256 < (m.rows.length : Int)
open Classical in
noncomputable def matErr (f : Fld) (m : Mat) : Int := if sizeBad m then 3 else if ragged m then 3 else if badRow f m then 2 else 0
theorem matErr_shape {f : Fld} {m : Mat} (h : sizeBad m) : matErr f m = 3 := by unfold matErr; rw [if_pos h]
theorem matErr_rag {f : Fld} {m : Mat} (h : ragged m) : matErr f m = 3 := by unfold matErr; rw [if_pos h]; split <;> rfl
theorem matErr_row {f : Fld} {m : Mat} (h : ¬ sizeBad m) (h2 : ¬ ragged m) (h3 : badRow f m) : matErr f m = 2 := by unfold matErr; rw [if_neg h, if_neg h2, if_pos h3]
theorem matErr_zero {f : Fld} {m : Mat} : matErr f m = 0 ↔ ¬ sizeBad m ∧ ¬ ragged m ∧ ¬ badRow f m := by
  unfold matErr
  constructor
  · intro h
    split at h
    · omega
    · split at h
      · omega
      · split at h
        · omega
        · exact ⟨by assumption, by assumption, by assumption⟩
  · rintro ⟨h1, h2, h3⟩; rw [if_neg h1, if_neg h2, if_neg h3]
theorem ragged_at {m : Mat} {i : Int} (h0 : 0 ≤ i) (h1 : i < m.rows.length) (h : ((ix [] m.rows i).length : Int) ≠ m.cols) : ragged m := ⟨_, ix_mem [] m.rows h0 h1, h⟩
theorem not_take_succ {α : Type} {P : α → Prop} (d : α) {l : List α} {i : Int} (h0 : 0 ≤ i) (h1 : i < l.length) (h : ∀ x ∈ l.take i.toNat, P x) (h2 : P (ix d l i)) : ∀ x ∈ l.take (i + 1).toNat, P x := by
  intro x hx
  rw [show (i + 1).toNat = i.toNat + 1 by omega, List.take_add_one, ix_get d l i h0 h1] at hx
  rcases List.mem_append.1 hx with h3 | h3
  · exact h x h3
  · simp at h3; subst h3; exact h2
theorem take_all {α : Type} {P : α → Prop} {l : List α} {i : Int} (h1 : (l.length : Int) ≤ i) (h : ∀ x ∈ l.take i.toNat, P x) : ∀ x ∈ l, P x := by
  rw [List.take_of_length_le (by omega)] at h; exact h
theorem badRow_at {f : Fld} {m : Mat} {i : Int} (h0 : 0 ≤ i) (h1 : i < m.rows.length) (h : entErr f (ix [] m.rows i) ≠ 0) : badRow f m := ⟨_, ix_mem [] m.rows h0 h1, Classical.byContradiction fun hn => h (entErr_zero.2 hn)⟩
theorem entErr_two {f : Fld} {l : List Int} (h : entErr f l ≠ 0) : entErr f l = 2 := by unfold entErr at *; split <;> simp_all
theorem not_ragged {m : Mat} (h : ∀ l ∈ m.rows, (l.length : Int) = m.cols) : ¬ ragged m := fun ⟨l, h1, h2⟩ => h2 (h l h1)
theorem not_badRow {f : Fld} {m : Mat} (h : ∀ l ∈ m.rows, entErr f l = 0) : ¬ badRow f m := fun ⟨l, h1, h2⟩ => entErr_zero.1 (h l h1) h2
theorem row_len {f : Fld} {m : Mat} (h : matErr f m = 0) {i : Int} (h0 : 0 ≤ i) (h1 : i < m.rows.length) : ((ix [] m.rows i).length : Int) = m.cols :=
  Classical.byContradiction fun hn => (matErr_zero.1 h).2.1 (ragged_at h0 h1 hn)
theorem mat_size {f : Fld} {m : Mat} (h : matErr f m = 0) : 0 ≤ m.cols ∧ m.cols ≤ 256 ∧ (m.rows.length : Int) ≤ 256 := by
  have := (matErr_zero.1 h).1
  unfold sizeBad at this
  omega
/-- The product. -/
def mulM (f : Fld) (a b : Mat) : Mat := ⟨b.cols, a.rows.map fun row => comb f row b.rows b.cols⟩
theorem length_mulM (f : Fld) (a b : Mat) : (mulM f a b).rows.length = a.rows.length := by simp [mulM]
/-- Are the matrices in order? The first error. -/
noncomputable def matsErr (f : Fld) : List Mat → Int
  | [] => 0
  | m :: l => if matErr f m = 0 then matsErr f l else matErr f m
end Go.Cw

