/-
  Convolutional encoders: degrees, errors, places.
-/
import Derived.Test.YtfjhbdfgbpcchaaPlainR
set_option linter.unusedVariables false
set_option linter.unusedSimpArgs false
set_option linter.unusedSectionVars false
namespace Go.Cw
/-! ### Convolutional encoders -/
structure Cnv where
  F : Fld
  Gen : List (List (List Int))
/-- The length without zeros at the end. -/
def trimN : List Int → Nat
  | [] => 0
  | a :: l => if trimN l = 0 then (if a = 0 then 0 else 1) else trimN l + 1
def trimL (l : List Int) : List Int := l.take (trimN l)
theorem trimN_le : ∀ l, trimN l ≤ l.length
  | [] => Nat.le_refl _
  | a :: l => by
    have := trimN_le l
    simp only [trimN, List.length_cons]
    split
    · split <;> omega
    · omega
theorem trimN_after : ∀ (l : List Int) (j : Nat), trimN l ≤ j → l.getD j 0 = 0
  | [], _, _ => by simp
  | a :: l, j, h => by
    simp only [trimN] at h
    split at h
    · rename_i h0
      split at h
      · rename_i ha
        cases j with
        | zero => simpa using ha
        | succ j => simpa using trimN_after l j (by omega)
      · cases j with
        | zero => omega
        | succ j => simpa using trimN_after l j (by omega)
    · cases j with
      | zero => omega
      | succ j => simpa using trimN_after l j (by omega)
theorem trimN_last : ∀ (l : List Int), 0 < trimN l → l.getD (trimN l - 1) 0 ≠ 0
  | [], h => by simp [trimN] at h
  | a :: l, h => by
    simp only [trimN] at h ⊢
    by_cases h0 : trimN l = 0
    · rw [if_pos h0] at h ⊢
      by_cases ha : a = 0
      · rw [if_pos ha] at h; omega
      · rw [if_neg ha]; simpa using ha
    · rw [if_neg h0]
      have := trimN_last l (by omega)
      rw [show trimN l + 1 - 1 = (trimN l - 1) + 1 by omega]
      simpa using this
theorem trimN_step {l : List Int} {k : Int} (h : (trimN l : Int) ≤ k) (h1 : 0 < k) (h2 : k ≤ l.length) (hz : ix 0 l (k - 1) = 0) : (trimN l : Int) ≤ k - 1 := by
  by_cases hk : (trimN l : Int) = k
  · have := trimN_last l (by omega)
    unfold ix at hz
    rw [show (k - 1).toNat = trimN l - 1 by omega] at hz
    exact absurd hz this
  · omega
theorem trimN_stop {l : List Int} {k : Int} (h : (trimN l : Int) ≤ k) (h0 : 0 ≤ k) (hz : ¬ (0 < k ∧ ix 0 l (k - 1) = 0)) : k = trimN l := by
  by_cases hk : (trimN l : Int) = k
  · exact hk.symm
  · exfalso
    refine hz ⟨by omega, ?_⟩
    unfold ix
    exact trimN_after l _ (by omega)
theorem trimN_snoc : ∀ (l : List Int) (a : Int), trimN (l ++ [a]) = if a = 0 then trimN l else l.length + 1
  | [], a => by simp [trimN]
  | b :: l, a => by
    simp only [List.cons_append, trimN, trimN_snoc l a, List.length_cons]
    by_cases ha : a = 0
    · simp [ha]
    · simp [ha]
theorem trimN_take {l : List Int} {d : Int} (h0 : 0 ≤ d) (h1 : d < l.length) : (trimN (l.take (d + 1).toNat) : Int) = if ix 0 l d = 0 then (trimN (l.take d.toNat) : Int) else d + 1 := by
  rw [take_succ_ix 0 l h0 h1, trimN_snoc]
  split
  · rfl
  · simp; omega
theorem length_trimL (l : List Int) : (trimL l).length = trimN l := by
  unfold trimL; have := trimN_le l; simp; omega
/-- The degree of a row, as far as its first n entries tell. -/
def rowDeg (row : List (List Int)) : Nat → Int
  | 0 => 0
  | n + 1 => max (rowDeg row n) ((trimN (ix [] row n) : Int) - 1)
theorem rowDeg_succ (row : List (List Int)) {j : Int} (h : 0 ≤ j) : rowDeg row (j + 1).toNat = max (rowDeg row j.toNat) ((trimN (ix [] row j) : Int) - 1) := by
  rw [show (j + 1).toNat = j.toNat + 1 by omega]
  simp only [rowDeg]
  rw [show ((j.toNat : Nat) : Int) = j by omega]
theorem rowDeg_nonneg (row : List (List Int)) : ∀ n, 0 ≤ rowDeg row n
  | 0 => Int.le_refl _
  | n + 1 => by have := rowDeg_nonneg row n; simp only [rowDeg]; omega
def degOf (row : List (List Int)) : Int := rowDeg row row.length
theorem rowDeg_le (row : List (List Int)) {b : Int} (hb : 0 ≤ b) (h : ∀ p ∈ row, (p.length : Int) ≤ b) : ∀ n, rowDeg row n ≤ b
  | 0 => hb
  | n + 1 => by
    have h1 := rowDeg_le row hb h n
    have h2 : (trimN (ix [] row n) : Int) ≤ b := by
      by_cases hn : n < row.length
      · have := h _ (ix_mem [] row (i := (n : Int)) (by omega) (by omega))
        have := trimN_le (ix [] row n)
        omega
      · have : ix [] row (n : Int) = [] := by unfold ix; simp [List.getD, show row.length ≤ n by omega]
        rw [this]; simpa [trimN] using hb
    simp only [rowDeg]; omega
namespace Cnv
def deg (c : Cnv) (i : Int) : Int := degOf (ix [] c.Gen i)
/-- The sum of the degrees of the first n rows. -/
def sumD (c : Cnv) : Nat → Int
  | 0 => 0
  | n + 1 => sumD c n + c.deg n
/-- The greatest degree of the first n rows. -/
def maxD (c : Cnv) : Nat → Int
  | 0 => 0
  | n + 1 => max (maxD c n) (c.deg n)
theorem sumD_succ (c : Cnv) {i : Int} (h : 0 ≤ i) : c.sumD (i + 1).toNat = c.sumD i.toNat + c.deg i := by
  rw [show (i + 1).toNat = i.toNat + 1 by omega]
  simp only [sumD]
  rw [show ((i.toNat : Nat) : Int) = i by omega]
theorem maxD_succ (c : Cnv) {i : Int} (h : 0 ≤ i) : c.maxD (i + 1).toNat = max (c.maxD i.toNat) (c.deg i) := by
  rw [show (i + 1).toNat = i.toNat + 1 by omega]
  simp only [maxD]
  rw [show ((i.toNat : Nat) : Int) = i by omega]
theorem deg_nonneg (c : Cnv) (i : Int) : 0 ≤ c.deg i := rowDeg_nonneg _ _
theorem sumD_nonneg (c : Cnv) : ∀ n, 0 ≤ c.sumD n
  | 0 => Int.le_refl _
  | n + 1 => by have := sumD_nonneg c n; have := c.deg_nonneg n; simp only [sumD]; omega
theorem maxD_nonneg (c : Cnv) : ∀ n, 0 ≤ c.maxD n
  | 0 => Int.le_refl _
  | n + 1 => by have := maxD_nonneg c n; simp only [maxD]; omega
theorem sumD_mono (c : Cnv) (n : Nat) : ∀ k, c.sumD n ≤ c.sumD (n + k)
  | 0 => Int.le_refl _
  | k + 1 => by have := sumD_mono c n k; have := c.deg_nonneg (n + k : Nat); show _ ≤ c.sumD (n + k) + c.deg ((n + k : Nat) : Int); omega
def n (c : Cnv) : Int := (ix [] c.Gen 0).length
def k (c : Cnv) : Int := c.Gen.length
/-- Inputs and degrees together. -/
def total (c : Cnv) : Int := c.k + c.sumD c.Gen.length
def badShape (c : Cnv) : Prop := c.k = 0 ∨ c.n = 0 ∨ c.n < c.k ∨ ∃ row ∈ c.Gen, (row.length : Int) ≠ c.n
def badElt (c : Cnv) : Prop := ∃ row ∈ c.Gen, ∃ p ∈ row, outF c.F p
def big (c : Cnv) : Prop := 65536 < c.F.q ^ c.total.toNat
open Classical in
noncomputable def err (c : Cnv) : Int :=
  if ¬ FOk c.F then 1 else if c.badShape then 3 else if 64 < c.n then 4 else if c.badElt then 2 else if c.big then 8 else 0
/-- Short enough. -/
def Few (c : Cnv) : Prop := c.k ≤ 70 ∧ ∀ row ∈ c.Gen, (row.length : Int) ≤ 70 ∧ ∀ p ∈ row, (p.length : Int) ≤ 40
theorem Few.deg_le {c : Cnv} (h : c.Few) (i : Int) (h0 : 0 ≤ i) (h1 : i < c.k) : c.deg i ≤ 40 :=
  rowDeg_le _ (by omega) (h.2 _ (ix_mem [] c.Gen h0 h1)).2 _
theorem Few.sumD_le {c : Cnv} (h : c.Few) : ∀ n : Nat, (n : Int) ≤ c.k → c.sumD n ≤ 40 * n
  | 0, _ => Int.le_refl _
  | n + 1, hn => by
    have := Few.sumD_le h n (by omega)
    have := h.deg_le n (by omega) (by omega)
    simp only [sumD]; omega
/-- The lengths of the first n polynomials of a row. -/
def lens (row : List (List Int)) : Nat → Int
  | 0 => 0
  | n + 1 => lens row n + (ix [] row n).length
def cnt (c : Cnv) : Nat → Int
  | 0 => 0
  | n + 1 => cnt c n + lens (ix [] c.Gen n) (ix [] c.Gen n).length
theorem lens_succ (row : List (List Int)) {j : Int} (h : 0 ≤ j) : lens row (j + 1).toNat = lens row j.toNat + (ix [] row j).length := by
  rw [show (j + 1).toNat = j.toNat + 1 by omega]
  simp only [lens]
  rw [show ((j.toNat : Nat) : Int) = j by omega]
theorem cnt_succ (c : Cnv) {i : Int} (h : 0 ≤ i) : c.cnt (i + 1).toNat = c.cnt i.toNat + lens (ix [] c.Gen i) (ix [] c.Gen i).length := by
  rw [show (i + 1).toNat = i.toNat + 1 by omega]
  simp only [cnt]
  rw [show ((i.toNat : Nat) : Int) = i by omega]
def Short (c : Cnv) : Prop := c.Few ∧ c.cnt c.Gen.length ≤ 3000
open Classical in
noncomputable instance (c : Cnv) : Decidable c.Short := Classical.propDecidable _
/-- The first rows are short. -/
def FewTo (c : Cnv) (i : Int) : Prop := ∀ row ∈ c.Gen.take i.toNat, (row.length : Int) ≤ 70 ∧ ∀ p ∈ row, (p.length : Int) ≤ 40
theorem FewTo.zero (c : Cnv) : c.FewTo 0 := by intro row h; simp at h
theorem FewTo.succ {c : Cnv} {i : Int} (h : c.FewTo i) (h0 : 0 ≤ i) (h1 : i < c.k) (h2 : ((ix [] c.Gen i).length : Int) ≤ 70) (h3 : ∀ p ∈ ix [] c.Gen i, (p.length : Int) ≤ 40) : c.FewTo (i + 1) := by
  intro row hr
  rw [take_succ_ix [] c.Gen h0 h1] at hr
  rcases List.mem_append.1 hr with hr | hr
  · exact h row hr
  · rw [List.mem_singleton] at hr; subst hr; exact ⟨h2, h3⟩
theorem FewTo.all {c : Cnv} {i : Int} (h : c.FewTo i) (h1 : c.k ≤ i) (h2 : c.k ≤ 70) : c.Few := by
  refine ⟨h2, fun row hr => h row ?_⟩
  have : c.k = (c.Gen.length : Int) := rfl
  rw [List.take_of_length_le (by omega)]; exact hr
theorem short_poly {l : List (List Int)} {j : Int} (h : ∀ p ∈ l.take j.toNat, (p.length : Int) ≤ 40) (h0 : 0 ≤ j) (h1 : j < l.length) (h2 : ((ix [] l j).length : Int) ≤ 40) : ∀ p ∈ l.take (j + 1).toNat, (p.length : Int) ≤ 40 := by
  intro p hp
  rw [take_succ_ix [] l h0 h1] at hp
  rcases List.mem_append.1 hp with hp | hp
  · exact h p hp
  · rw [List.mem_singleton] at hp; subst hp; exact h2
theorem lens_le (row : List (List Int)) (h : ∀ p ∈ row, (p.length : Int) ≤ 40) : ∀ n : Nat, n ≤ row.length → 0 ≤ lens row n ∧ lens row n ≤ 40 * n
  | 0, _ => ⟨Int.le_refl _, Int.le_refl _⟩
  | n + 1, hn => by
    have := lens_le row h n (by omega)
    have := h _ (ix_mem [] row (i := (n : Int)) (by omega) (by omega))
    simp only [lens]; omega
structure Ok (c : Cnv) : Prop where
  fld : FOk c.F
  shape : ¬ c.badShape
  len : c.n ≤ 64
  elt : ¬ c.badElt
  small : ¬ c.big
theorem err_zero {c : Cnv} : c.err = 0 ↔ c.Ok := by
  unfold err
  constructor
  · intro h
    split at h; · cases h
    rename_i h1
    split at h; · cases h
    rename_i h2
    split at h; · cases h
    rename_i h3
    split at h; · cases h
    rename_i h4
    split at h; · cases h
    rename_i h5
    exact ⟨Classical.not_not.1 h1, h2, by omega, h4, h5⟩
  · rintro ⟨h1, h2, h3, h4, h5⟩
    rw [if_neg (fun h => h h1), if_neg h2, if_neg (by omega), if_neg h4, if_neg h5]
theorem err_1 {c : Cnv} (h : ¬ FOk c.F) : c.err = 1 := by unfold err; rw [if_pos h]
theorem err_3 {c : Cnv} (h : FOk c.F) (h2 : c.badShape) : c.err = 3 := by unfold err; rw [if_neg (fun g => g h), if_pos h2]
theorem err_4 {c : Cnv} (h : FOk c.F) (h2 : ¬ c.badShape) (h3 : 64 < c.n) : c.err = 4 := by unfold err; rw [if_neg (fun g => g h), if_neg h2, if_pos h3]
theorem err_2 {c : Cnv} (h : FOk c.F) (h2 : ¬ c.badShape) (h3 : c.n ≤ 64) (h4 : c.badElt) : c.err = 2 := by unfold err; rw [if_neg (fun g => g h), if_neg h2, if_neg (by omega), if_pos h4]
theorem err_8 {c : Cnv} (h : FOk c.F) (h2 : ¬ c.badShape) (h3 : c.n ≤ 64) (h4 : ¬ c.badElt) (h5 : c.big) : c.err = 8 := by
  unfold err; rw [if_neg (fun g => g h), if_neg h2, if_neg (by omega), if_neg h4, if_pos h5]
theorem badShape_row {c : Cnv} {i : Int} (h0 : 0 ≤ i) (h1 : i < c.Gen.length) (h : ((ix [] c.Gen i).length : Int) ≠ c.n) : c.badShape := .inr (.inr (.inr ⟨_, ix_mem [] c.Gen h0 h1, h⟩))
/-- The first rows have the right length. -/
def RowsTo (c : Cnv) (i : Int) : Prop := ∀ row ∈ c.Gen.take i.toNat, (row.length : Int) = c.n
theorem RowsTo.zero (c : Cnv) : c.RowsTo 0 := by intro row h; simp at h
theorem RowsTo.succ {c : Cnv} {i : Int} (h : c.RowsTo i) (h0 : 0 ≤ i) (h1 : i < c.Gen.length) (h2 : ((ix [] c.Gen i).length : Int) = c.n) : c.RowsTo (i + 1) := by
  intro row hr
  rw [take_succ_ix [] c.Gen h0 h1] at hr
  rcases List.mem_append.1 hr with hr | hr
  · exact h row hr
  · rw [List.mem_singleton] at hr; subst hr; exact h2
theorem RowsTo.shape {c : Cnv} {i : Int} (h : c.RowsTo i) (h1 : c.Gen.length ≤ i) (h2 : c.k ≠ 0) (h3 : c.n ≠ 0) (h4 : c.k ≤ c.n) : ¬ c.badShape := by
  unfold RowsTo at h
  rw [List.take_of_length_le (by omega)] at h
  rintro (g | g | g | ⟨row, hr, g⟩)
  · exact h2 g
  · exact h3 g
  · omega
  · exact g (h row hr)
/-- The first polynomials of a row are over the field. -/
def PolTo (f : Fld) (row : List (List Int)) (j : Int) : Prop := ∀ p ∈ row.take j.toNat, ¬ outF f p
def EltTo (c : Cnv) (i : Int) : Prop := ∀ row ∈ c.Gen.take i.toNat, ∀ p ∈ row, ¬ outF c.F p
theorem PolTo.zero (f : Fld) (row : List (List Int)) : PolTo f row 0 := by intro p h; simp at h
theorem EltTo.zero (c : Cnv) : c.EltTo 0 := by intro row h; simp at h
theorem PolTo.succ {f : Fld} {row : List (List Int)} {j : Int} (h : PolTo f row j) (h0 : 0 ≤ j) (h1 : j < row.length) (h2 : ¬ outF f (ix [] row j)) : PolTo f row (j + 1) := by
  intro p hp
  rw [take_succ_ix [] row h0 h1] at hp
  rcases List.mem_append.1 hp with hp | hp
  · exact h p hp
  · rw [List.mem_singleton] at hp; subst hp; exact h2
theorem EltTo.succ {c : Cnv} {i j : Int} (h : c.EltTo i) (h0 : 0 ≤ i) (h1 : i < c.Gen.length) (h2 : PolTo c.F (ix [] c.Gen i) j) (h3 : (ix [] c.Gen i).length ≤ j) : c.EltTo (i + 1) := by
  intro row hr
  rw [take_succ_ix [] c.Gen h0 h1] at hr
  rcases List.mem_append.1 hr with hr | hr
  · exact h row hr
  · rw [List.mem_singleton] at hr; subst hr
    intro p hp
    refine h2 p ?_
    rw [List.take_of_length_le (by omega)]; exact hp
theorem EltTo.all {c : Cnv} {i : Int} (h : c.EltTo i) (h1 : c.Gen.length ≤ i) : ¬ c.badElt := by
  unfold EltTo at h
  rw [List.take_of_length_le (by omega)] at h
  rintro ⟨row, hr, p, hp, g⟩
  exact h row hr p hp g
theorem badElt_at {c : Cnv} {i j : Int} (h0 : 0 ≤ i) (h1 : i < c.Gen.length) (h2 : 0 ≤ j) (h3 : j < (ix [] c.Gen i).length) (h : outF c.F (ix [] (ix [] c.Gen i) j)) : c.badElt :=
  ⟨_, ix_mem [] c.Gen h0 h1, _, ix_mem [] _ h2 h3, h⟩
theorem Ok.poly {c : Cnv} (h : c.Ok) {i j : Int} (h0 : 0 ≤ i) (h1 : i < c.Gen.length) (h2 : 0 ≤ j) (h3 : j < (ix [] c.Gen i).length) : ¬ outF c.F (ix [] (ix [] c.Gen i) j) := fun g => h.elt (badElt_at h0 h1 h2 h3 g)
theorem Ok.row {c : Cnv} (h : c.Ok) {i : Int} (h0 : 0 ≤ i) (h1 : i < c.Gen.length) : ((ix [] c.Gen i).length : Int) = c.n := by
  by_cases g : ((ix [] c.Gen i).length : Int) = c.n
  · exact g
  · exact absurd (badShape_row h0 h1 g) h.shape
theorem Ok.kn {c : Cnv} (h : c.Ok) : 1 ≤ c.k ∧ c.k ≤ c.n := by
  have h1 : ¬ (c.k = 0) := fun g => h.shape (.inl g)
  have h2 : ¬ (c.n < c.k) := fun g => h.shape (.inr (.inr (.inl g)))
  have : 0 ≤ c.k := by unfold k; omega
  omega
/-- The canonical generators, the degrees, the places. -/
def canon (c : Cnv) : List (List (List Int)) := c.Gen.map (fun row => row.map trimL)
def degs (c : Cnv) : List Int := mapR c.deg c.k
def mem (c : Cnv) : Int := c.maxD c.Gen.length
def fst (c : Cnv) (i : Int) : Int := c.F.q ^ (c.sumD i.toNat).toNat
def fsts (c : Cnv) : List Int := mapR c.fst c.k
def states (c : Cnv) : Int := c.F.q ^ (c.sumD c.Gen.length).toNat
theorem pow_part {c : Cnv} (hq : 2 ≤ c.F.q) {e : Int} (h : e ≤ c.total) : c.F.q ^ e.toNat ≤ c.F.q ^ c.total.toNat := pow_mono_of c.F.q hq (by omega)
theorem fst_add (c : Cnv) (i d : Int) (h : 0 ≤ d) : c.fst i * c.F.q ^ d.toNat = c.F.q ^ (c.sumD i.toNat + d).toNat := by
  have := c.sumD_nonneg i.toNat
  unfold fst
  rw [← Int.pow_add, show (c.sumD i.toNat + d).toNat = (c.sumD i.toNat).toNat + d.toNat by omega]
theorem fst_succ (c : Cnv) {i : Int} (h : 0 ≤ i) : c.fst (i + 1) = c.fst i * c.F.q ^ (c.deg i).toNat := by
  rw [c.fst_add i _ (c.deg_nonneg i)]
  unfold fst
  rw [c.sumD_succ h]
theorem sumD_le_all (c : Cnv) {i : Int} (h1 : i ≤ c.Gen.length) : c.sumD i.toNat ≤ c.sumD c.Gen.length := by
  have := c.sumD_mono i.toNat (c.Gen.length - i.toNat)
  rwa [show i.toNat + (c.Gen.length - i.toNat) = c.Gen.length by omega] at this
theorem deg_part (c : Cnv) {i : Int} (h0 : 0 ≤ i) (h1 : i < c.Gen.length) : c.sumD i.toNat + c.deg i ≤ c.sumD c.Gen.length := by
  rw [← c.sumD_succ h0]; exact c.sumD_le_all (by omega)
end Cnv
/-- q to the power of k, if that is at most m. -/
def expF (q k m : Int) : Int := if q ^ k.toNat ≤ m then q ^ k.toNat else 0
def expE (q k m : Int) : Int := if q ^ k.toNat ≤ m then 0 else 8
end Go.Cw
