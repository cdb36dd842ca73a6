/-
  Facts for the law MatrixProducts.
-/
import Derived.Test.YtamhdlkfhhpdpaaPlainF1
set_option linter.unusedVariables false
set_option linter.unusedSimpArgs false
set_option linter.unusedSectionVars false
namespace Go.Cw
structure Rgn where
  F : Fld
  Kind : Int
  K : Int
  D : Int
  Points : List Int
def rgBad (r : Rgn) : Prop := (r.Kind ≠ 0 ∧ r.Kind ≠ 1) ∨ r.D < 1 ∨ (r.Points.length : Int) - 1 < r.D ∨ r.K < 1 ∨ r.D < r.K ∨ (r.Kind = 1 ∧ r.D ≠ 2 * r.K - 2)
instance (r : Rgn) : Decidable (rgBad r) := by unfold rgBad; infer_instance
def outF (f : Fld) (l : List Int) : Prop := ∃ x ∈ l, ¬ (0 ≤ x ∧ x < f.q)
instance (f : Fld) (l : List Int) : Decidable (outF f l) := by unfold outF; infer_instance
def entErr (f : Fld) (l : List Int) : Int := if outF f l then 2 else 0
def rgPow (r : Rgn) (x : Int) : Int := powF r.F x (r.K - 1)
structure RgOk (r : Rgn) : Prop where
  fld : FOk r.F
  len : 2 ≤ (r.Points.length : Int) ∧ (r.Points.length : Int) ≤ 64
  rng : ¬ rgBad r
  elt : ¬ outF r.F r.Points
  nodup : r.Points.Nodup
  pows : r.Kind = 1 → (r.Points.map (rgPow r)).Nodup
theorem outF_at {f : Fld} {l : List Int} {i : Int} (h0 : 0 ≤ i) (h1 : i < l.length) (h : ¬ (0 ≤ ix 0 l i ∧ ix 0 l i < f.q)) : outF f l := ⟨_, ix_mem 0 l h0 h1, h⟩
theorem outF_succ {f : Fld} {l : List Int} {i : Int} (h0 : 0 ≤ i) (h1 : i < l.length) (h : ¬ outF f (l.take i.toNat)) (h2 : 0 ≤ ix 0 l i ∧ ix 0 l i < f.q) : ¬ outF f (l.take (i + 1).toNat) := by
  rw [take_succ_ix 0 l h0 h1]
  rintro ⟨x, hx, hb⟩
  rcases List.mem_append.1 hx with hx | hx
  · exact h ⟨x, hx, hb⟩
  · rw [List.mem_singleton] at hx; rw [hx] at hb; exact hb h2
theorem outF_no {f : Fld} {l : List Int} (h : ¬ outF f l) {x : Int} (hx : x ∈ l) : 0 ≤ x ∧ x < f.q := by
  by_cases h2 : 0 ≤ x ∧ x < f.q
  · exact h2
  · exact absurd ⟨x, hx, h2⟩ h
theorem entErr_zero {f : Fld} {l : List Int} : entErr f l = 0 ↔ ¬ outF f l := by unfold entErr; split <;> simp_all
end Go.Cw

