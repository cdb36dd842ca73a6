/-
  Facts for the law MatrixUnique.
-/
import Derived.Test.YtamhdlkfhhpdpaaPlainSl
set_option linter.unusedVariables false
set_option linter.unusedSimpArgs false
set_option linter.unusedSectionVars false
namespace Go.Cw
section
variable {f : Fld} (h : FOk f) {n : Nat}
/-- Another list of as many rows with the same span. -/
structure SameSp (X X' : List (List Int)) : Prop where
  len : X'.length = X.length
  good : good f n X'
  h1 : ∀ i, i < X.length → La.Span (km h X') X'.length (km h X i)
  h2 : ∀ i, i < X'.length → La.Span (km h X) X.length (km h X' i)
theorem SameSp.trans {A B C : List (List Int)} (p : SameSp (n := n) h A B) (q : SameSp (n := n) h B C) : SameSp (n := n) h A C :=
  ⟨q.len.trans p.len, q.good, fun i hi => (p.h1 i hi).trans q.h1, fun i hi => (q.h2 i hi).trans p.h2⟩
theorem same_swp {X : List (List Int)} (hX : Cw.good f n X) {i j : Int} (i0 : 0 ≤ i) (i1 : i < X.length) (j0 : 0 ≤ j) (j1 : j < X.length) : SameSp (n := n) h X (swp [] X i j) := by
  obtain ⟨p, rfl⟩ := Int.eq_ofNat_of_zero_le i0
  obtain ⟨k, rfl⟩ := Int.eq_ofNat_of_zero_le j0
  have hp : p < X.length := by omega
  have hk : k < X.length := by omega
  have hl : (swp [] X (p : Int) (k : Int)).length = X.length := by simp [swp]
  have e := km_swp h X hp hk
  refine ⟨hl, good_swp hX i0 i1 j0 j1, fun i hi => ?_, fun i hi => ?_⟩
  · rw [hl]
    by_cases a : i = p
    · subst a
      have hv := e k
      by_cases b : k = i
      · subst b; rw [if_pos rfl] at hv; rw [← hv]; exact La.Span.mem hk
      · rw [if_neg b, if_pos rfl] at hv; rw [← hv]; exact La.Span.mem hk
    · by_cases b : i = k
      · subst b
        have hv := e p
        rw [if_pos rfl] at hv; rw [← hv]; exact La.Span.mem hp
      · have hv := e i
        rw [if_neg a, if_neg b] at hv; rw [← hv]; exact La.Span.mem hi
  · rw [hl] at hi
    rw [e i]
    split
    · exact La.Span.mem hk
    · split
      · exact La.Span.mem hp
      · exact La.Span.mem hi
/-- A row is replaced by x times itself and y times another one, x not zero. -/
theorem same_set {X : List (List Int)} (hX : Cw.good f n X) {i j : Nat} (i1 : i < X.length) (j1 : j < X.length) {v : List Int} (hv : v.length = n ∧ ¬ outF f v) {x y : KF f h} (hx : x ≠ 0) (hij : i ≠ j ∨ y = 0) (e : kv h v = fun c => x * km h X i c + y * km h X j c) :
    SameSp (n := n) h X (X.set i v) := by
  have hl : (X.set i v).length = X.length := by simp
  have es := km_set h X v i1
  refine ⟨hl, good_set hX hv.1 hv.2 i, fun q hq => ?_, fun q hq => ?_⟩
  · rw [hl]
    by_cases a : q = i
    · subst a
      have s1 : La.Span (km h (X.set q v)) X.length (fun c => x * km h X q c + y * km h X j c) := by
        rw [← e]; have := es q; rw [if_pos rfl] at this; rw [← this]; exact La.Span.mem hq
      have s2 : La.Span (km h (X.set q v)) X.length (fun c => y * km h X j c) := by
        rcases hij with hij | hij
        · have := es j
          rw [if_neg (Ne.symm hij)] at this
          rw [← this]; exact (La.Span.mem j1).smul y
        · rw [hij]; exact La.Span.zero.congr fun c => by rw [Fi.zero_mul]
      refine ((s1.add (s2.smul (-1))).smul (Fi.inv x)).congr fun c => ?_
      have hi := Fi.inv_mul x hx
      show Fi.inv x * (x * km h X q c + y * km h X j c + -1 * (y * km h X j c)) = km h X q c
      rw [Fi.neg_mul, Fi.one_mul, Fi.add_assoc, Fi.add_neg, Fi.add_zero, ← Fi.mul_assoc, hi, Fi.one_mul]
    · have := es q
      rw [if_neg a] at this; rw [← this]; exact La.Span.mem hq
  · rw [hl] at hq
    rw [es q]
    split
    · rw [e]; exact ((La.Span.mem i1).smul x).add ((La.Span.mem j1).smul y)
    · exact La.Span.mem hq
end
theorem mErr_same {f : Fld} {m : Mat} (hm : mErr f m = 0) {X' : List (List Int)} (s : SameSp (n := m.cols.toNat) (mErr_zero.1 hm).1 m.rows X') : mErr f ⟨m.cols, X'⟩ = 0 ∧ canM f ⟨m.cols, X'⟩ = canM f m := by
  obtain ⟨hF, hme⟩ := mErr_zero.1 hm
  have hs := mat_size hme
  have hl := s.len
  have h0 : mErr f ⟨m.cols, X'⟩ = 0 := mErr_zero.2 ⟨hF, good_mat hs.1 hs.2.1 (by show X'.length ≤ 256; omega) s.good⟩
  refine ⟨h0, ?_⟩
  rw [canM_ok h0, canM_ok hm]
  have := (can_uniq hF (mat_good hme) s.good s.h1 s.h2).2
  show Mat.mk m.cols (canR (elim f X' [] m.cols.toNat)) = ⟨m.cols, canR (elim f m.rows [] m.cols.toNat)⟩
  rw [this]
/-- The three lists of rows of the law. -/
def uq1 (X : List (List Int)) (i j : Int) : List (List Int) := swp [] X i j
def uq2 (f : Fld) (X : List (List Int)) (i j a : Int) : List (List Int) := (uq1 X i j).set i.toNat (addTo f (ix [] (uq1 X i j) i) a (ix [] (uq1 X i j) j))
def uq3 (f : Fld) (X : List (List Int)) (w i j a : Int) : List (List Int) := (uq2 f X i j a).set j.toNat (addTo f (List.replicate w.toNat 0) a (ix [] (uq2 f X i j a) j))
structure UqF (f : Fld) (m : Mat) (i j a : Int) : Prop where
  w1 : good f m.cols.toNat (uq1 m.rows i j)
  w2 : good f m.cols.toNat (uq2 f m.rows i j a)
  l1 : (uq1 m.rows i j).length = m.rows.length
  l2 : (uq2 f m.rows i j a).length = m.rows.length
  l3 : (uq3 f m.rows m.cols i j a).length = m.rows.length
  e1 : mErr f ⟨m.cols, uq1 m.rows i j⟩ = 0
  e2 : mErr f ⟨m.cols, uq2 f m.rows i j a⟩ = 0
  e3 : mErr f ⟨m.cols, uq3 f m.rows m.cols i j a⟩ = 0
  c1 : canM f ⟨m.cols, uq1 m.rows i j⟩ = canM f m
  c2 : canM f ⟨m.cols, uq2 f m.rows i j a⟩ = canM f m
  c3 : canM f ⟨m.cols, uq3 f m.rows m.cols i j a⟩ = canM f m
theorem uq_facts {f : Fld} {m : Mat} (hm : mErr f m = 0) {i j a : Int} (i0 : 0 ≤ i) (i1 : i < m.rows.length) (j0 : 0 ≤ j) (j1 : j < m.rows.length) (hij : i ≠ j) (a0 : 1 ≤ a) (a1 : a < f.q) : UqF f m i j a := by
  obtain ⟨hF, hme⟩ := mErr_zero.1 hm
  have hX := mat_good hme
  have s1 : SameSp (n := m.cols.toNat) hF m.rows (uq1 m.rows i j) := same_swp hF hX i0 i1 j0 j1
  have g1 := s1.good
  have l1 := s1.len
  have ha : ke hF a ≠ 0 := fun e => by have := (ke_eq_zero hF (by omega) a1).1 e; omega
  have w1i := (g1 _ (ix_mem' i0 (show i < (uq1 m.rows i j).length by omega)))
  have w1j := (g1 _ (ix_mem' j0 (show j < (uq1 m.rows i j).length by omega)))
  have s2' : SameSp (n := m.cols.toNat) hF (uq1 m.rows i j) (uq2 f m.rows i j a) := by
    refine same_set hF (j := j.toNat) (x := 1) (y := ke hF a) g1 (by omega) (by omega) ⟨by rw [length_addTo]; exact w1i.1, out_addTo hF.1 w1i.2 _ _⟩ Fi.one_ne (.inl (by omega)) ?_
    funext c
    rw [kv_addTo hF (by rw [w1i.1, w1j.1]; exact Nat.le_refl _), km_at, km_at, show ((i.toNat : Nat) : Int) = i by omega, show ((j.toNat : Nat) : Int) = j by omega, Fi.one_mul]
  have s2 := s1.trans hF s2'
  have g2 := s2.good
  have l2 := s2.len
  have w2j := (g2 _ (ix_mem' j0 (show j < (uq2 f m.rows i j a).length by omega)))
  have s3' : SameSp (n := m.cols.toNat) hF (uq2 f m.rows i j a) (uq3 f m.rows m.cols i j a) := by
    refine same_set hF (j := j.toNat) (x := ke hF a) (y := 0) g2 (by omega) (by omega) ⟨by rw [length_addTo]; simp, out_addTo hF.1 (notOut_zero hF.1 _) _ _⟩ ha (.inr rfl) ?_
    funext c
    rw [kv_addTo hF (by rw [w2j.1]; simp), kv_zeros, km_at, show ((j.toNat : Nat) : Int) = j by omega, Fi.zero_mul, Fi.zero_add, Fi.add_zero]
  have s3 := s2.trans hF s3'
  exact ⟨g1, g2, l1, l2, s3.len, (mErr_same hm s1).1, (mErr_same hm s2).1, (mErr_same hm s3).1, (mErr_same hm s1).2, (mErr_same hm s2).2, (mErr_same hm s3).2⟩
end Go.Cw
namespace Go.Cw
theorem uq_idx {n a b : Int} (hn : 2 ≤ n) : 0 ≤ a % n ∧ a % n < n ∧ 0 ≤ b % (n - 1) ∧ b % (n - 1) < n - 1 ∧ 0 ≤ (a % n + 1 + b % (n - 1)) % n ∧ (a % n + 1 + b % (n - 1)) % n < n ∧ a % n ≠ (a % n + 1 + b % (n - 1)) % n := by
  have h1 := Int.emod_nonneg a (show n ≠ 0 by omega)
  have h2 := Int.emod_lt_of_pos a (show 0 < n by omega)
  have h3 := Int.emod_nonneg b (show n - 1 ≠ 0 by omega)
  have h4 := Int.emod_lt_of_pos b (show 0 < n - 1 by omega)
  generalize a % n = i at *
  generalize b % (n - 1) = k at *
  refine ⟨h1, h2, h3, h4, Int.emod_nonneg _ (by omega), Int.emod_lt_of_pos _ (by omega), ?_⟩
  by_cases e : i + 1 + k < n
  · rw [Int.emod_eq_of_lt (by omega) e]; omega
  · have : i + 1 + k = (i + 1 + k - n) + n := by omega
    rw [this, Int.add_emod_right, Int.emod_eq_of_lt (by omega) (by omega)]; omega
theorem uq_coef {q c : Int} (hq : 2 ≤ q) : 0 ≤ c % (q - 1) ∧ c % (q - 1) < q - 1 := ⟨Int.emod_nonneg _ (by omega), Int.emod_lt_of_pos _ (by omega)⟩
end Go.Cw

