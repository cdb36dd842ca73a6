/-
  Facts for the law MatrixProducts.
-/
import Derived.Test.YtamhdlkfhhpdpaaPlainR
set_option linter.unusedVariables false
set_option linter.unusedSimpArgs false
set_option linter.unusedSectionVars false
namespace Go.Cw
structure Cnv where
  F : Fld
  Gen : List (List (List Int))
/-- The length without zeros at the end. -/
def trimN : List Int → Nat
  | [] => 0
  | a :: l => if trimN l = 0 then (if a = 0 then 0 else 1) else trimN l + 1
/-- The degree of a row, as far as its first n entries tell. -/
def rowDeg (row : List (List Int)) : Nat → Int
  | 0 => 0
  | n + 1 => max (rowDeg row n) ((trimN (ix [] row n) : Int) - 1)
def degOf (row : List (List Int)) : Int := rowDeg row row.length
namespace Cnv
def deg (c : Cnv) (i : Int) : Int := degOf (ix [] c.Gen i)
/-- The sum of the degrees of the first n rows. -/
def sumD (c : Cnv) : Nat → Int
  | 0 => 0
  | n + 1 => sumD c n + c.deg n
/-- The greatest degree of the first n rows. -/
def maxD (c : Cnv) : Nat → Int
  | 0 => 0
  | n + 1 => max (maxD c n) (c.deg n)
def n (c : Cnv) : Int := (ix [] c.Gen 0).length
def k (c : Cnv) : Int := c.Gen.length
/-- Inputs and degrees together. -/
def total (c : Cnv) : Int := c.k + c.sumD c.Gen.length
def badShape (c : Cnv) : Prop := c.k = 0 ∨ c.n = 0 ∨ c.n < c.k ∨ ∃ row ∈ c.Gen, (row.length : Int) ≠ c.n
def badElt (c : Cnv) : Prop := ∃ row ∈ c.Gen, ∃ p ∈ row, outF c.F p
def big (c : Cnv) : Prop := 65536 < c.F.q ^ c.total.toNat
open Classical in
noncomputable def err (c : Cnv) : Int :=
  if ¬ FOk c.F then 1 else if c.badShape then 3 else if 64 < c.n then 4 else if c.badElt then 2 else if c.big then 8 else 0
/-- Short enough. -/
def Few (c : Cnv) : Prop := c.k ≤ 70 ∧ ∀ row ∈ c.Gen, (row.length : Int) ≤ 70 ∧ ∀ p ∈ row, (p.length : Int) ≤ 40
/-- The lengths of the first n polynomials of a row. -/
def lens (row : List (List Int)) : Nat → Int
  | 0 => 0
  | n + 1 => lens row n + (ix [] row n).length
def cnt (c : Cnv) : Nat → Int
  | 0 => 0
  | n + 1 => cnt c n + lens (ix [] c.Gen n) (ix [] c.Gen n).length
def Short (c : Cnv) : Prop := c.Few ∧ c.cnt c.Gen.length ≤ 3000
open Classical in
noncomputable instance (c : Cnv) : Decidable c.Short := Classical.propDecidable _
/-- The first rows are short. -/
def FewTo (c : Cnv) (i : Int) : Prop := ∀ row ∈ c.Gen.take i.toNat, (row.length : Int) ≤ 70 ∧ ∀ p ∈ row, (p.length : Int) ≤ 40
theorem FewTo.zero (c : Cnv) : c.FewTo 0 := by intro row h; simp at h
theorem FewTo.succ {c : Cnv} {i : Int} (h : c.FewTo i) (h0 : 0 ≤ i) (h1 : i < c.k) (h2 : ((ix [] c.Gen i).length : Int) ≤ 70) (h3 : ∀ p ∈ ix [] c.Gen i, (p.length : Int) ≤ 40) : c.FewTo (i + 1) := by
  intro row hr
  rw [take_succ_ix [] c.Gen h0 h1] at hr
  rcases List.mem_append.1 hr with hr | hr
  · exact h row hr
  · rw [List.mem_singleton] at hr; subst hr; exact ⟨h2, h3⟩
theorem FewTo.all {c : Cnv} {i : Int} (h : c.FewTo i) (h1 : c.k ≤ i) (h2 : c.k ≤ 70) : c.Few := by
  refine ⟨h2, fun row hr => h row ?_⟩
  have : c.k = (c.Gen.length : Int) := rfl
  rw [List.take_of_length_le (by omega)]; exact hr
structure Ok (c : Cnv) : Prop where
  fld : FOk c.F
  shape : ¬ c.badShape
  len : c.n ≤ 64
  elt : ¬ c.badElt
  small : ¬ c.big
theorem badShape_row {c : Cnv} {i : Int} (h0 : 0 ≤ i) (h1 : i < c.Gen.length) (h : ((ix [] c.Gen i).length : Int) ≠ c.n) : c.badShape := .inr (.inr (.inr ⟨_, ix_mem [] c.Gen h0 h1, h⟩))
/-- The first rows have the right length. -/
def RowsTo (c : Cnv) (i : Int) : Prop := ∀ row ∈ c.Gen.take i.toNat, (row.length : Int) = c.n
theorem RowsTo.zero (c : Cnv) : c.RowsTo 0 := by intro row h; simp at h
theorem RowsTo.succ {c : Cnv} {i : Int} (h : c.RowsTo i) (h0 : 0 ≤ i) (h1 : i < c.Gen.length) (h2 : ((ix [] c.Gen i).length : Int) = c.n) : c.RowsTo (i + 1) := by
  intro row hr
  rw [take_succ_ix [] c.Gen h0 h1] at hr
  rcases List.mem_append.1 hr with hr | hr
  · exact h row hr
  · rw [List.mem_singleton] at hr; subst hr; exact h2
theorem RowsTo.shape {c : Cnv} {i : Int} (h : c.RowsTo i) (h1 : c.Gen.length ≤ i) (h2 : c.k ≠ 0) (h3 : c.n ≠ 0) (h4 : c.k ≤ c.n) : ¬ c.badShape := by
  unfold RowsTo at h
  rw [List.take_of_length_le (by omega)] at h
  rintro (g | g | g | ⟨row, hr, g⟩)
  · exact h2 g
  · exact h3 g
  · omega
  · exact g (h row hr)
/-- The first polynomials of a row are over the field. -/
def PolTo (f : Fld) (row : List (List Int)) (j : Int) : Prop := ∀ p ∈ row.take j.toNat, ¬ outF f p
def EltTo (c : Cnv) (i : Int) : Prop := ∀ row ∈ c.Gen.take i.toNat, ∀ p ∈ row, ¬ outF c.F p
theorem PolTo.zero (f : Fld) (row : List (List Int)) : PolTo f row 0 := by intro p h; simp at h
theorem EltTo.zero (c : Cnv) : c.EltTo 0 := by intro row h; simp at h
theorem PolTo.succ {f : Fld} {row : List (List Int)} {j : Int} (h : PolTo f row j) (h0 : 0 ≤ j) (h1 : j < row.length) (h2 : ¬ outF f (ix [] row j)) : PolTo f row (j + 1) := by
  intro p hp
  rw [take_succ_ix [] row h0 h1] at hp
  rcases List.mem_append.1 hp with hp | hp
  · exact h p hp
  · rw [List.mem_singleton] at hp; subst hp; exact h2
theorem EltTo.succ {c : Cnv} {i j : Int} (h : c.EltTo i) (h0 : 0 ≤ i) (h1 : i < c.Gen.length) (h2 : PolTo c.F (ix [] c.Gen i) j) (h3 : (ix [] c.Gen i).length ≤ j) : c.EltTo (i + 1) := by
  intro row hr
  rw [take_succ_ix [] c.Gen h0 h1] at hr
  rcases List.mem_append.1 hr with hr | hr
  · exact h row hr
  · rw [List.mem_singleton] at hr; subst hr
    intro p hp
    refine h2 p ?_
    rw [List.take_of_length_le (by omega)]; exact hp
theorem EltTo.all {c : Cnv} {i : Int} (h : c.EltTo i) (h1 : c.Gen.length ≤ i) : ¬ c.badElt := by
  unfold EltTo at h
  rw [List.take_of_length_le (by omega)] at h
  rintro ⟨row, hr, p, hp, g⟩
  exact h row hr p hp g
theorem Ok.row {c : Cnv} (h : c.Ok) {i : Int} (h0 : 0 ≤ i) (h1 : i < c.Gen.length) : ((ix [] c.Gen i).length : Int) = c.n := by
  by_cases g : ((ix [] c.Gen i).length : Int) = c.n
  · exact g
  · exact absurd (badShape_row h0 h1 g) h.shape
theorem Ok.kn {c : Cnv} (h : c.Ok) : 1 ≤ c.k ∧ c.k ≤ c.n := by
  have h1 : ¬ (c.k = 0) := fun g => h.shape (.inl g)
  have h2 : ¬ (c.n < c.k) := fun g => h.shape (.inr (.inr (.inl g)))
  have : 0 ≤ c.k := by unfold k; omega
  omega
def mem (c : Cnv) : Int := c.maxD c.Gen.length
def fst (c : Cnv) (i : Int) : Int := c.F.q ^ (c.sumD i.toNat).toNat
def states (c : Cnv) : Int := c.F.q ^ (c.sumD c.Gen.length).toNat
end Cnv
end Go.Cw

