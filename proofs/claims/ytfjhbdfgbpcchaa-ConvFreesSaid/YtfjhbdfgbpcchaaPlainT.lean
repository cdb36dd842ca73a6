/-
  Polynomials without zeros at their ends.
-/
import Derived.Test.YtfjhbdfgbpcchaaPlainV
set_option linter.unusedVariables false
set_option linter.unusedSimpArgs false
set_option linter.unusedSectionVars false
namespace Go.Cw
theorem mixL_skip (l r : List Int) {i : Int} (h0 : 0 ≤ i) (h1 : i < r.length) (h : l.length = r.length) (hv : ix 0 r i = ix 0 l i) : mixL l r i = mixL l r (i + 1) := by
  have e := mixL_set l r h0 h1 h hv
  rw [← e]
  have hm := ix_mixL l r h0 h1 h
  have hl := length_mixL l r (i := i) h
  have hlt : i.toNat < (mixL l r i).length := by omega
  unfold ix at hm
  simp only [List.getD, List.getElem?_eq_getElem hlt, Option.getD_some] at hm
  conv => lhs; rw [← List.set_getElem_self hlt]
  rw [hm]; rfl
theorem ix_map_inF (f : Fld) (l : List Int) {i : Int} (h0 : 0 ≤ i) (h1 : i < l.length) : ix 0 (l.map (inF f)) i = inF f (ix 0 l i) := by
  have hi : i.toNat < l.length := by omega
  simp [ix, List.getD, hi]
theorem map_inF {f : Fld} {l : List Int} (h : ¬ outF f l) : l.map (inF f) = l := by
  conv => rhs; rw [← List.map_id l]
  apply List.map_congr_left
  intro x hx
  have := outF_no h hx
  unfold inF; rw [if_pos this]; rfl
theorem ix_take (l : List Int) {k i : Int} (h0 : 0 ≤ i) (h1 : i < k) : ix 0 (l.take k.toNat) i = ix 0 l i := by
  unfold ix
  simp only [List.getD]
  rw [List.getElem?_take, if_pos (by omega)]
theorem ix_replicate0 (n : Nat) (i : Int) : ix 0 (List.replicate n (0 : Int)) i = 0 := by
  unfold ix
  simp only [List.getD, List.getElem?_replicate]
  split <;> rfl
open Classical in
noncomputable def Cnv.degsE (c : Cnv) : List Int := if c.err = 0 then c.degs else []
end Go.Cw
