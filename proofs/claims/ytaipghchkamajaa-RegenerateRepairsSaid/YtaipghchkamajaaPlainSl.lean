/-
  Plain facts.
-/
import Derived.Test.YtaipghchkamajaaPlainCa
set_option linter.unusedVariables false
set_option linter.unusedSimpArgs false
set_option linter.unusedSectionVars false
namespace Go.Cw
section
variable {f : Fld} (h : FOk f)
theorem ke_dot (a b : List Int) {n : Nat} (ha : a.length ≤ n) : ke h (dotF f a b) = La.sm (fun j => kv h a j * kv h b j) n := by
  have key : ∀ k, ke h (dotTo f a b k) = La.sm (fun j => kv h a j * kv h b j) k := by
    intro k
    induction k with
    | zero => exact ke_zero h
    | succ k ih =>
      show ke h (addF f (dotTo f a b k) (mulF f (ix 0 a k) (ix 0 b k))) = La.sm _ k + _
      rw [ke_add, ke_mul, ih, ← kv_ix, ← kv_ix]
  unfold dotF
  rw [key]
  refine (La.sm_cut (by omega) fun i h1 h2 => ?_).symm
  by_cases hi : a.length ≤ i
  · rw [kv_out h hi, Fi.zero_mul]
  · rw [kv_out h (v := b) (by omega), Fi.mul_zero]
theorem kv_app {a b : List Int} {j : Nat} (hj : j < a.length) : kv h (a ++ b) j = kv h a j := by
  unfold kv
  simp only [List.getD]
  rw [List.getElem?_append_left hj]
theorem kv_set {l : List Int} {p : Nat} (hp : p < l.length) (x : Int) (j : Nat) : kv h (l.set p x) j = if j = p then ke h x else kv h l j := by
  unfold kv
  by_cases e : j = p
  · subst e; rw [if_pos rfl]; simp [List.getD, hp]
  · rw [if_neg e]; simp only [List.getD]; rw [List.getElem?_set_ne (Ne.symm e)]
theorem km_at {X : List (List Int)} {i : Nat} : km h X i = kv h (ix [] X i) := by rw [ix_nat]; rfl
end
theorem La.sm_upd {K : Type} [Fi K] {g g' : Nat → K} {n p : Nat} (hp : p < n) (h0 : g p = 0) (h : ∀ j, j ≠ p → g' j = g j) : La.sm g' n = La.sm g n + g' p := by
  have e1 : La.sm g' n = La.sm (fun j => g j + if j = p then g' p else 0) n := La.sm_congr fun j _ => by
    by_cases e : j = p
    · subst e; rw [if_pos rfl, h0, Fi.zero_add]
    · rw [if_neg e, h j e, Fi.add_zero]
  rw [e1, La.sm_add]
  congr 1
  rw [La.sm_one (k := p) hp fun i _ hne => if_neg hne, if_pos rfl]
def dots (f : Fld) (rows : List (List Int)) (x : List Int) : List Int := rows.map fun row => dotF f row x
@[simp] theorem length_dots (f : Fld) (rows : List (List Int)) (x : List Int) : (dots f rows x).length = rows.length := by simp [dots]
theorem dot_lt {f : Fld} (hS : Shape f) (a b : List Int) : 0 ≤ dotF f a b ∧ dotF f a b < f.q := by
  have hb := hS.bd
  unfold dotF
  cases min a.length b.length with
  | zero => exact ⟨Int.le_refl _, by show (0 : Int) < _; omega⟩
  | succ k => exact hS.addF_lt _ _
section
variable {f : Fld} {n : Nat} {X : List (List Int)} {x : List Int}
/-- The rows with a right side. -/
theorem km_aug (h : FOk f) (hX : good f n X) (b : List Int) {i j : Nat} (hi : i < X.length) (hj : j < n) : km h (augL X b) i j = km h X i j := by
  have hw := wide_ix (good_wide hX) (i := (i : Int)) (by omega) (by omega)
  rw [km_at, ix_augL (by omega) (by omega), kv_app h (by omega), ← km_at]
/-- Pivots do not hang on the right side. -/
theorem piv_aug (h : FOk f) (hX : good f n X) {b : List Int} (hb : ¬ outF f b) : (elim f (augL X b) [] n).piv = (elim f X [] n).piv := by
  have hA := aug_good h.1 hX hb
  have r1 := elim_rref h hA (wide_nil 0) (.inl rfl) n
  have r2 := elim_rref h hX (wide_nil 0) (.inl rfl) n
  have s1 := elim_span h hA n
  have s2 := elim_span h hX n
  have hl := length_augL X b
  rw [hl] at r1 s1
  obtain ⟨e1, e2, _⟩ := r1.uniq r2 (fun i hi => by
      obtain ⟨c, hc⟩ := s1.1 i hi
      refine ⟨La.lin c (km h X) X.length, La.Span.trans ⟨c, rfl⟩ s2.2, fun y hy => ?_⟩
      rw [hc]
      exact La.sm_congr fun k hk => by rw [km_aug h hX b hk hy]) (fun i hi => by
      obtain ⟨c, hc⟩ := s2.1 i hi
      refine ⟨La.lin c (km h (augL X b)) X.length, La.Span.trans ⟨c, rfl⟩ s1.2, fun y hy => ?_⟩
      rw [hc]
      exact La.sm_congr fun k hk => by rw [km_aug h hX b hk hy])
  refine ext_ix 0 e1 fun j j0 j1 => ?_
  have a1 := pvN_ix (f := f) (augL X b) [] n (i := j.toNat) (by omega)
  have a2 := pvN_ix (f := f) X [] n (i := j.toNat) (by omega)
  have := e2 j.toNat (by omega)
  rw [show ((j.toNat : Nat) : Int) = j by omega] at a1 a2
  omega
end
/-- What the law on solvable systems asks. -/
structure SolF (f : Fld) (m : Mat) (x : List Int) : Prop where
  err : solE f m (dots f m.rows x) = 0
  len : ((solV f m (dots f m.rows x)).length : Int) = m.cols
  dot : ∀ q : Int, 0 ≤ q → q < m.rows.length → dotF f (ix [] m.rows q) (solV f m (dots f m.rows x)) = ix 0 (dots f m.rows x) q
  sup : ∀ i : Int, 0 ≤ i → ix 0 (solV f m (dots f m.rows x)) i ≠ 0 → i ∈ canP f m
end Go.Cw
namespace Go.Cw
end Go.Cw

