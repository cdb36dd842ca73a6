/-
  Facts for the law MatrixInverse.
-/
import Derived.Test.YtamhdlkfhhpdpaaPlainOp
set_option linter.unusedVariables false
set_option linter.unusedSimpArgs false
set_option linter.unusedSectionVars false
namespace Go.Cw
namespace La
variable {K : Type} [Fi K]
/-- Reduced rows decide. -/
theorem Rref.rows {A : Nat → Nat → K} {n r : Nat} {p : Nat → Nat} (hA : Rref A n n p r) : Rows n A (if r < n then 0 else 1) := by
  intro G g
  split
  · rename_i h
    rw [Fi.zero_mul]
    exact g.zero (p := r) h fun j hj => hA.rest r j (Nat.le_refl _) h hj
  · have e : r = n := by have := hA.le; omega
    subst e
    rw [Fi.one_mul]
    exact g.congr fun i j hi hj => hA.full.2 i j hi hj
theorem rows_ex {n : Nat} (R : Nat → Nat → K) : ∃ d, Rows n R d := by
  have key : ∀ c : Nat, ∃ (B : Nat → Nat → K) (p : Nat → Nat) (r : Nat) (d : K), Rref B n c p r ∧ ∀ G : (Nat → Nat → K) → K, RowF n G → G R = d * G B := by
    intro c
    induction c with
    | zero => exact ⟨R, fun _ => 0, 0, 1, Rref.zero _ _ _, fun G _ => by rw [Fi.one_mul]⟩
    | succ c ih =>
      obtain ⟨B, p, r, d, h1, h2⟩ := ih
      by_cases hz : ∀ j, r ≤ j → j < n → B j c = 0
      · exact ⟨B, p, r, d, h1.skip hz, h2⟩
      · obtain ⟨k, hk1, hk2, hne⟩ : ∃ k, r ≤ k ∧ k < n ∧ B k c ≠ 0 :=
          Classical.byContradiction fun hn => hz fun j h4 h5 => Classical.byContradiction fun h6 => hn ⟨j, h4, h5, h6⟩
        refine ⟨colA B B r k c, fun i => if i = r then c else p i, r + 1, d * (if k ≠ r then -(B k c) else B k c), h1.step hk1 hk2 hne (if_pos rfl) (fun i hi => if_neg (by omega)) (fun i j _ => rfl), fun G g => ?_⟩
        rw [h2 G g, Fi.mul_assoc, g.col B (by omega) hk2 hk1 hne]
  obtain ⟨B, p, r, d, h1, h2⟩ := key n
  exact ⟨d * (if r < n then 0 else 1), fun G g => by rw [h2 G g, h1.rows G g, ← Fi.mul_assoc]⟩
theorem rows_eq {n : Nat} {R : Nat → Nat → K} {d : K} (h : Rows n R d) : d = det n R := by
  have := h _ (rowDet rows_ex)
  rw [det_idm, Fi.mul_one] at this
  exact this.symm
end La
section
variable {f : Fld} (h : FOk f)
theorem elim_det {w : Nat} {X : List (List Int)} (hX : good f w X) : ∀ (c : Nat) (G : (Nat → Nat → KF f h) → KF f h), La.RowF X.length G → G (km h X) = ke h (elim f X [] c).det * G (km h (elim f X [] c).X)
  | 0, G, _ => by
    show _ = ke h 1 * _
    rw [ke_one, Fi.one_mul]; rfl
  | c + 1, G, g => by
    have ih := elim_det hX c G g
    have hl := length_elim f X [] c
    have hg := good_elim h.1 (Y := []) hX c
    have hp := piv_le f X [] c
    show _ = ke h (col f c (elim f X [] c)).det * G (km h (col f c (elim f X [] c)).X)
    rcases col_cases f c (elim f X [] c) (by omega) with ⟨e, _⟩ | ⟨k, k1, k2, k3, e⟩
    · rw [e]; exact ih
    · rw [e, ih]
      have hr := good_ixlt h.1 hg (i := (k : Int)) (by omega) (by omega) c
      have hne : km h (elim f X [] c).X k c ≠ 0 := by
        rw [km_ix]
        exact fun e0 => k3 ((ke_eq_zero h hr.1 hr.2).1 e0)
      have hw : wide 0 (elim f X [] c).Y := fun l hl2 => by
        have : (elim f X [] c).Y = [] := List.eq_nil_of_length_eq_zero hl.2
        rw [this] at hl2; cases hl2
      obtain ⟨q1, _⟩ := km_colK h hg hw (.inl (List.eq_nil_of_length_eq_zero hl.2)) (k := k) (c := c) (by omega) k2 hne
      have e2 : G (km h (colK f c (elim f X [] c) k).X) = G (La.colA (km h (elim f X [] c).X) (km h (elim f X [] c).X) (elim f X [] c).piv.length k c) := g.congr fun i j hi _ => q1 i j (by omega)
      have e3 := g.col (km h (elim f X [] c).X) (r := (elim f X [] c).piv.length) (k := k) (c := c) (by omega) (by omega) k1 hne
      have e4 : ke h (colK f c (elim f X [] c) k).det = ke h (elim f X [] c).det * (if k ≠ (elim f X [] c).piv.length then -(km h (elim f X [] c).X k c) else km h (elim f X [] c).X k c) := by
        show ke h (mulF f (if (k : Int) ≠ ((elim f X [] c).piv.length : Int) then negF f (elim f X [] c).det else (elim f X [] c).det) (phx c (elim f X [] c) k)) = _
        rw [ke_mul, phx_eq (by omega) (by omega) (by omega), ← km_ix]
        by_cases ek : k = (elim f X [] c).piv.length
        · rw [if_neg (fun hn => hn (by omega)), if_neg (fun hn => hn ek)]
        · rw [if_pos (by omega), if_pos ek, ke_neg, Fi.neg_mul, Fi.mul_neg]
      rw [e2, e4, Fi.mul_assoc, e3]
theorem elim_det_lt {f : Fld} (hS : Shape f) (X : List (List Int)) : ∀ c : Nat, 0 ≤ (elim f X [] c).det ∧ (elim f X [] c).det < f.q
  | 0 => by have := hS.bd; exact ⟨by show (0 : Int) ≤ 1; omega, by show (1 : Int) < f.q; omega⟩
  | c + 1 => by
    have ih := elim_det_lt hS X c
    have hp := piv_le f X [] c
    have hl := length_elim f X [] c
    show 0 ≤ (col f c (elim f X [] c)).det ∧ (col f c (elim f X [] c)).det < f.q
    rcases col_cases f c (elim f X [] c) (by omega) with ⟨e, _⟩ | ⟨k, _, _, _, e⟩
    · rw [e]; exact ih
    · rw [e]; exact hS.mulF_lt _ _
theorem detV_lt {f : Fld} (hS : Shape f) (m : Mat) : 0 ≤ detV f m ∧ detV f m < f.q := by
  have hb := hS.bd
  have e := elim_det_lt hS m.rows m.cols.toNat
  unfold detV
  split
  · split
    · exact ⟨by omega, by omega⟩
    · exact e
  · exact ⟨by omega, by omega⟩
theorem ke_detV {m : Mat} (hq : sqErr f m = 0) : ke h (detV f m) = La.det m.rows.length (km h m.rows) := by
  obtain ⟨hm, hsq⟩ := sqErr_zero.1 hq
  have hg := mat_good (mErr_zero.1 hm).2
  have en : m.cols.toNat = m.rows.length := by omega
  have hr := elim_rref h hg (wide_nil 0) (.inl rfl) m.cols.toNat
  have hp := piv_le f m.rows [] m.cols.toNat
  rw [← La.rows_eq (R := km h m.rows) (d := ke h (detV f m))]
  intro G g
  rw [elim_det h hg m.cols.toNat G g]
  have hr2 : La.Rref (km h (elim f m.rows [] m.cols.toNat).X) m.rows.length m.rows.length (pvN (elim f m.rows [] m.cols.toNat).piv) (elim f m.rows [] m.cols.toNat).piv.length := by
    have := hr; rwa [en] at this ⊢
  rw [hr2.rows G g]
  by_cases hlt : (elim f m.rows [] m.cols.toNat).piv.length < m.rows.length
  · have : ((canX f m).piv.length : Int) < m.cols := by show ((elim f m.rows [] m.cols.toNat).piv.length : Int) < m.cols; omega
    rw [if_pos hlt, detV_rank hq this, ke_zero, Fi.zero_mul, Fi.mul_zero]
  · have : ¬ ((canX f m).piv.length : Int) < m.cols := by show ¬ ((elim f m.rows [] m.cols.toNat).piv.length : Int) < m.cols; omega
    rw [if_neg hlt, detV_ok hq this, Fi.one_mul]; rfl
end
/-- What the law on determinants asks. -/
structure DetG (f : Fld) (a b : Mat) : Prop where
  q1 : sqErr f a = 0
  q2 : sqErr f b = 0
  e : mulE f a b = 0
  q3 : sqErr f (mulV f a b) = 0
  q4 : sqErr f (turM f a) = 0
  x : 0 ≤ detV f a ∧ detV f a < f.q
  y : 0 ≤ detV f b ∧ detV f b < f.q
  z : detV f (mulV f a b) = mulF f (detV f a) (detV f b)
  u : detV f (turM f a) = detV f a
  q5 : 2 ≤ a.rows.length → sqErr f ⟨a.cols, swp [] a.rows 0 1⟩ = 0
  v : 2 ≤ a.rows.length → detV f ⟨a.cols, swp [] a.rows 0 1⟩ = negF f (detV f a)
end Go.Cw

