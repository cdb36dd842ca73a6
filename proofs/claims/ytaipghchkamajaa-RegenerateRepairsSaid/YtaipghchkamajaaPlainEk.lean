/-
  Plain facts.
-/
import Derived.Test.YtaipghchkamajaaPlainEl
import Derived.Test.YtaipghchkamajaaPlainDet
set_option linter.unusedVariables false
set_option linter.unusedSimpArgs false
set_option linter.unusedSectionVars false
namespace Go.Cw
section
variable {f : Fld} (h : FOk f)
theorem ke_neg (x : Int) : ke h (negF f x) = -ke h x := by
  apply Rg.Kt.ext
  have hn := h.1.negF_lt x
  show Shape.e f (negF f x) = f.R.vneg (Shape.e f x)
  unfold Shape.e
  rw [inF_id hn.1 hn.2]
  exact Rg.elt_negc f.R _
theorem ke_inv {x : Int} (hx : ke h x ≠ 0) : ke h (invF f x) = Fi.inv (ke h x) := by
  have hi : inF f x ≠ 0 := fun e => hx (by rw [← ke_in, e, ke_zero])
  have hs := invF_spec h hi
  have e1 : ke h x * ke h (invF f x) = 1 := by rw [← ke_mul, hs.1, ke_one]
  refine Fi.mul_left_cancel hx ?_
  rw [e1, Fi.mul_inv hx]
noncomputable def kv (v : List Int) : Nat → KF f h := fun j => ke h (v.getD j 0)
noncomputable def km (X : List (List Int)) : Nat → Nat → KF f h := fun i => kv h (X.getD i [])
theorem kv_out {v : List Int} {j : Nat} (hj : v.length ≤ j) : kv h v j = 0 := by
  unfold kv
  rw [show v.getD j 0 = 0 by simp only [List.getD]; rw [List.getElem?_eq_none hj]; rfl]
  exact ke_zero h
theorem ix_nat {α : Type} (d : α) (l : List α) (i : Nat) : ix d l (i : Int) = l.getD i d := by simp [ix]
theorem kv_ix (v : List Int) (j : Nat) : kv h v j = ke h (ix 0 v j) := by rw [ix_nat]; rfl
theorem km_ix (X : List (List Int)) (i j : Nat) : km h X i j = ke h (ix 0 (ix [] X i) j) := by rw [ix_nat, ix_nat]; rfl
theorem kv_addTo {v u : List Int} (hl : u.length ≤ v.length) (a : Int) (j : Nat) : kv h (addTo f v a u) j = kv h v j + ke h a * kv h u j := by
  by_cases hj : j < v.length
  · rw [kv_ix, ix_addTo f v a u (by omega) (by omega), kv_ix h v, kv_ix h u]
    split
    · rename_i e; rw [e, ke_zero, Fi.mul_zero, Fi.add_zero]
    · rw [ke_add, ke_mul]
  · rw [kv_out h (by rw [length_addTo]; omega), kv_out h (v := v) (by omega), kv_out h (v := u) (by omega), Fi.mul_zero, Fi.add_zero]
theorem kv_scale (a : Int) (v : List Int) (j : Nat) : kv h (scaleF f a v) j = ke h a * kv h v j := by
  by_cases hj : j < v.length
  · rw [kv_ix, ix_scaleF f a v (by omega) (by omega), kv_ix, ke_mul]
  · rw [kv_out h (by rw [length_scaleF]; omega), kv_out h (v := v) (by omega), Fi.mul_zero]
theorem km_set (X : List (List Int)) {i : Nat} (v : List Int) (hi : i < X.length) (i' : Nat) : km h (X.set i v) i' = if i' = i then kv h v else km h X i' := by
  unfold km
  by_cases e : i' = i
  · subst e; rw [if_pos rfl]; simp [List.getD, hi]
  · rw [if_neg e]; simp only [List.getD]; rw [List.getElem?_set_ne (Ne.symm e)]
theorem km_swp (X : List (List Int)) {p k : Nat} (hp : p < X.length) (hk : k < X.length) (i : Nat) : km h (swp [] X p k) i = if i = p then km h X k else if i = k then km h X p else km h X i := by
  unfold swp
  rw [show ((k : Int)).toNat = k by omega, show ((p : Int)).toNat = p by omega, km_set h _ _ (by simpa using hk), km_set h _ _ hp, ix_nat, ix_nat]
  by_cases e1 : i = k
  · subst e1
    rw [if_pos rfl]
    by_cases e2 : i = p
    · subst e2; rw [if_pos rfl]; rfl
    · rw [if_neg e2, if_pos rfl]; rfl
  · rw [if_neg e1]
    by_cases e2 : i = p
    · rw [if_pos e2, if_pos e2]; rfl
    · rw [if_neg e2, if_neg e2, if_neg e1]
theorem wide_get {w : Nat} {X : List (List Int)} (hw : wide w X) {i : Nat} (hi : i < X.length) : (X.getD i []).length = w := by
  have := wide_ix hw (i := (i : Int)) (by omega) (by omega)
  rwa [ix_nat] at this
/-- Two rows of a list of rows of one width, or of no rows at all. -/
theorem wide_le {w : Nat} {X : List (List Int)} (hw : wide w X) {i : Nat} (hi : i < X.length) (j : Nat) : (X.getD j []).length ≤ (X.getD i []).length := by
  rw [wide_get hw hi]
  by_cases hj : j < X.length
  · rw [wide_get hw hj]; omega
  · simp only [List.getD]; rw [List.getElem?_eq_none (by omega)]; simp
theorem km_clr {w wy : Nat} {X Y : List (List Int)} (hX : wide w X) (hY : wide wy Y) (hXY : Y = [] ∨ Y.length = X.length) {p : Nat} (hp : p < X.length) (c : Nat) : ∀ n : Nat, n ≤ X.length →
    (∀ i j, km h (clr f c p X Y n).1 i j = if i < n ∧ i ≠ p then km h X i j + -(km h X i c) * km h X p j else km h X i j) ∧
    (∀ i j, km h (clr f c p X Y n).2 i j = if i < n ∧ i ≠ p then km h Y i j + -(km h X i c) * km h Y p j else km h Y i j)
  | 0, _ => by
    constructor
    · intro i j; rw [if_neg (by omega)]; rfl
    · intro i j; rw [if_neg (by omega)]; rfl
  | n + 1, hn => by
    obtain ⟨ih1, ih2⟩ := km_clr hX hY hXY hp c n (by omega)
    have hl := length_clr f c p X Y n
    have wX := wide_clr1 (f := f) (c := (c : Int)) (p := (p : Int)) (Y := Y) hX n
    have wY := wide_clr (f := f) (c := (c : Int)) (p := (p : Int)) (X := X) hY n
    have hrow : ∀ j, km h (clr f c p X Y n).1 n j = km h X n j := fun j => by rw [ih1, if_neg (by omega)]
    have hrp : ∀ j, km h (clr f c p X Y n).1 p j = km h X p j := fun j => by rw [ih1, if_neg (by omega)]
    have hrowY : ∀ j, km h (clr f c p X Y n).2 n j = km h Y n j := fun j => by rw [ih2, if_neg (by omega)]
    have hrpY : ∀ j, km h (clr f c p X Y n).2 p j = km h Y p j := fun j => by rw [ih2, if_neg (by omega)]
    have hx : ke h (ix 0 (ix [] (clr f c p X Y n).1 n) c) = km h X n c := by rw [← hrow, km_ix]
    simp only [clr]
    by_cases hc : (n : Int) ≠ p ∧ ix 0 (ix [] (clr f c p X Y n).1 n) c ≠ 0
    · rw [if_pos hc]
      refine ⟨fun i j => ?_, fun i j => ?_⟩
      · simp only
        rw [km_set h _ _ (by rw [hl.1]; omega)]
        by_cases e : i = n
        · subst e
          rw [if_pos rfl, if_pos ⟨by omega, by omega⟩, ix_nat, ix_nat, ix_nat, kv_addTo h (wide_le wX (by rw [hl.1]; omega) p), ke_neg]
          rw [ix_nat, ix_nat] at hx
          rw [hx]
          show km h (clr f c p X Y i).1 i j + _ * km h (clr f c p X Y i).1 p j = _
          rw [hrow, hrp]
        · rw [if_neg e, ih1]
          by_cases e2 : i < n ∧ i ≠ p
          · rw [if_pos e2, if_pos ⟨by omega, e2.2⟩]
          · rw [if_neg e2, if_neg (by omega)]
      · simp only
        by_cases hYn : n < Y.length
        · rw [km_set h _ _ (by rw [hl.2]; exact hYn)]
          by_cases e : i = n
          · subst e
            rw [if_pos rfl, if_pos ⟨by omega, by omega⟩, ix_nat, ix_nat, ix_nat, ix_nat, kv_addTo h (wide_le wY (by rw [hl.2]; exact hYn) p), ke_neg]
            rw [ix_nat, ix_nat] at hx
            rw [hx]
            show km h (clr f c p X Y i).2 i j + _ * km h (clr f c p X Y i).2 p j = _
            rw [hrowY, hrpY]
          · rw [if_neg e, ih2]
            by_cases e2 : i < n ∧ i ≠ p
            · rw [if_pos e2, if_pos ⟨by omega, e2.2⟩]
            · rw [if_neg e2, if_neg (by omega)]
        · have hY0 : Y = [] := by
            rcases hXY with e | e
            · exact e
            · omega
          have hz : ∀ i j, km h Y i j = 0 := fun i j => by rw [hY0]; exact kv_out h (by simp)
          rw [set_out (by rw [hl.2]; exact hYn), ih2]
          simp only [hz, Fi.mul_zero, Fi.add_zero, ite_self]
    · rw [if_neg hc]
      have hz : n = p ∨ km h X n c = 0 := by
        by_cases e : n = p
        · exact .inl e
        · right
          have : ix 0 (ix [] (clr f c p X Y n).1 n) c = 0 := Classical.byContradiction fun hn => hc ⟨by omega, hn⟩
          rw [← hx, this, ke_zero]
      refine ⟨fun i j => ?_, fun i j => ?_⟩
      · simp only
        rw [ih1]
        by_cases e : i = n
        · subst e
          rw [if_neg (by omega)]
          rcases hz with e | e
          · rw [if_neg (by omega)]
          · rw [e, Fi.neg_zero, Fi.zero_mul, Fi.add_zero, ite_self]
        · by_cases e2 : i < n ∧ i ≠ p
          · rw [if_pos e2, if_pos ⟨by omega, e2.2⟩]
          · rw [if_neg e2, if_neg (by omega)]
      · simp only
        rw [ih2]
        by_cases e : i = n
        · subst e
          rw [if_neg (by omega)]
          rcases hz with e | e
          · rw [if_neg (by omega)]
          · rw [e, Fi.neg_zero, Fi.zero_mul, Fi.add_zero, ite_self]
        · by_cases e2 : i < n ∧ i ≠ p
          · rw [if_pos e2, if_pos ⟨by omega, e2.2⟩]
          · rw [if_neg e2, if_neg (by omega)]
/-- What a column does, as matrices. -/
theorem km_colK {w wy : Nat} {s : El} (hX : good f w s.X) (hY : wide wy s.Y) (hXY : s.Y = [] ∨ s.Y.length = s.X.length) {k c : Nat} (hr : s.piv.length < s.X.length) (hk : k < s.X.length) (hne : km h s.X k c ≠ 0) :
    (∀ i j, i < s.X.length → km h (colK f c s k).X i j = La.colA (km h s.X) (km h s.X) s.piv.length k c i j) ∧
    (∀ i j, i < s.X.length → km h (colK f c s k).Y i j = La.colA (km h s.X) (km h s.Y) s.piv.length k c i j) := by
  have hS := h.1
  have hwX := good_wide hX
  have p1 : ∀ Z : List (List Int), (Z = [] ∨ Z.length = s.X.length) → ∀ i j, km h (ph1 s Z k) i j = if i = s.piv.length then km h Z k j else if i = k then km h Z s.piv.length j else km h Z i j := by
    intro Z hZ i j
    rcases hZ with hZ | hZ
    · subst hZ
      have hz : ∀ i j, km h ([] : List (List Int)) i j = 0 := fun i j => kv_out h (by simp)
      have : ph1 s [] k = [] := by unfold ph1; split <;> simp [swp]
      rw [this]
      simp only [hz, ite_self]
    · unfold ph1
      split
      · rw [km_swp h Z (by omega) (by omega)]
        split
        · rfl
        · split <;> rfl
      · rename_i e
        have e2 : k = s.piv.length := by omega
        by_cases e1 : i = s.piv.length
        · rw [if_pos e1, e1, e2]
        · rw [if_neg e1, if_neg (by omega)]
  have hph : ke h (phx c s k) = km h s.X k c := by
    unfold phx
    rw [← km_ix, p1 s.X (.inr rfl), if_pos rfl]
  have hinv : ke h (invF f (phx c s k)) = Fi.inv (km h s.X k c) := by rw [← hph]; exact ke_inv h (by rw [hph]; exact hne)
  have p2 : ∀ Z : List (List Int), (Z = [] ∨ Z.length = s.X.length) → ∀ i j, km h (ph2 f c s Z k) i j = if i = s.piv.length then Fi.inv (km h s.X k c) * km h Z k j else if i = k then km h Z s.piv.length j else km h Z i j := by
    intro Z hZ i j
    have hp := p1 Z hZ
    unfold ph2
    split
    · rcases hZ with hZ | hZ
      · subst hZ
        have hz : ∀ i j, km h ([] : List (List Int)) i j = 0 := fun i j => kv_out h (by simp)
        have : ph1 s [] k = [] := by unfold ph1; split <;> simp [swp]
        rw [this]
        simp only [List.set_nil, hz, Fi.mul_zero, ite_self]
      · rw [km_set h _ _ (by rw [length_ph1]; omega)]
        by_cases e : i = s.piv.length
        · rw [if_pos e, if_pos e, kv_scale, hinv, ix_nat]
          show _ * km h (ph1 s Z k) s.piv.length j = _
          rw [hp, if_pos rfl]
        · rw [if_neg e, if_neg e, hp, if_neg e]
    · rename_i e
      have e1 : Fi.inv (km h s.X k c) = 1 := by
        rw [← hinv, Classical.not_not.1 e, ke_one]
      rw [hp]
      by_cases e2 : i = s.piv.length
      · rw [if_pos e2, if_pos e2, e1, Fi.one_mul]
      · rw [if_neg e2, if_neg e2]
  have g2 := good_ph2 hS (c := (c : Int)) hX (k := (k : Int)) (by omega) (by omega) hr
  have hYk : ((s.piv.length : Nat) : Int) < s.Y.length ↔ (k : Int) < s.Y.length := by
    rcases hXY with e | e
    · have : s.Y.length = 0 := by rw [e]; rfl
      omega
    · omega
  have w2 := wide_ph2 (f := f) (c := (c : Int)) (s := s) hY (k := (k : Int)) (by omega) (by omega)
  have lX := length_ph2 f c s s.X k
  have lY := length_ph2 f c s s.Y k
  have hXY2 : ph2 f c s s.Y k = [] ∨ (ph2 f c s s.Y k).length = (ph2 f c s s.X k).length := by
    rcases hXY with e | e
    · left; apply List.eq_nil_of_length_eq_zero; rw [lY, e]; rfl
    · right; omega
  obtain ⟨k1, k2⟩ := km_clr h (good_wide g2) w2 hXY2 (p := s.piv.length) (by omega) c s.X.length (by omega)
  have eX : ∀ i, i < s.X.length → i ≠ s.piv.length → km h (ph2 f c s s.X k) i c = if i = k then km h s.X s.piv.length c else km h s.X i c := fun i hi hne => by rw [p2 s.X (.inr rfl), if_neg hne]
  refine ⟨fun i j hi => ?_, fun i j hi => ?_⟩
  · show km h (clr f c _ _ _ _).1 i j = _
    rw [k1]
    unfold La.colA
    by_cases e : i = s.piv.length
    · rw [if_neg (by omega), if_pos e, p2 s.X (.inr rfl), if_pos e]
    · rw [if_pos ⟨hi, e⟩, if_neg e, eX i hi e, p2 s.X (.inr rfl), if_neg e, p2 s.X (.inr rfl), if_pos rfl]
  · show km h (clr f c _ _ _ _).2 i j = _
    rw [k2]
    unfold La.colA
    by_cases e : i = s.piv.length
    · rw [if_neg (by omega), if_pos e, p2 s.Y hXY, if_pos e]
    · rw [if_pos ⟨hi, e⟩, if_neg e, eX i hi e, p2 s.Y hXY, if_neg e, p2 s.Y hXY, if_pos rfl]
end
/-- Where the search ends. -/
theorem pivK_spec (X : List (List Int)) (c : Int) {p : Nat} (hp : p ≤ X.length) : ∃ k : Nat, pivK X c p = k ∧ p ≤ k ∧ k ≤ X.length ∧ (∀ z : Nat, p ≤ z → z < k → ix 0 (ix [] X z) c = 0) ∧ (k < X.length → ix 0 (ix [] X k) c ≠ 0) := by
  have ex : ∀ (d p : Nat), p + d = X.length → ∃ k : Nat, p ≤ k ∧ k ≤ X.length ∧ (∀ z : Nat, p ≤ z → z < k → ix 0 (ix [] X z) c = 0) ∧ (k < X.length → ix 0 (ix [] X k) c ≠ 0) := by
    intro d
    induction d with
    | zero => intro p hp; exact ⟨p, Nat.le_refl _, by omega, fun z h1 h2 => by omega, fun h => by omega⟩
    | succ d ih =>
      intro p hp
      by_cases h0 : ix 0 (ix [] X p) c = 0
      · obtain ⟨k, k1, k2, k3, k4⟩ := ih (p + 1) (by omega)
        refine ⟨k, by omega, k2, fun z h1 h2 => ?_, k4⟩
        by_cases e : z = p
        · rw [e]; exact h0
        · exact k3 z (by omega) h2
      · exact ⟨p, Nat.le_refl _, by omega, fun z h1 h2 => by omega, fun _ => h0⟩
  obtain ⟨k, k1, k2, k3, k4⟩ := ex (X.length - p) p (by omega)
  refine ⟨k, pivK_eq (by omega) (by omega) (by omega) (fun z h1 h2 => ?_) ?_, k1, k2, k3, k4⟩
  · have := k3 z.toNat (by omega) (by omega)
    rwa [show ((z.toNat : Nat) : Int) = z by omega] at this
  · by_cases e : k = X.length
    · left; omega
    · right; exact k4 (by omega)
/-- The three ways of a column. -/
theorem col_cases (f : Fld) (c : Int) (s : El) (hr : s.piv.length ≤ s.X.length) : (col f c s = s ∧ ∀ z : Nat, s.piv.length ≤ z → z < s.X.length → ix 0 (ix [] s.X z) c = 0) ∨
    ∃ k : Nat, s.piv.length ≤ k ∧ k < s.X.length ∧ ix 0 (ix [] s.X k) c ≠ 0 ∧ col f c s = colK f c s k := by
  unfold col
  by_cases h1 : s.piv.length < s.X.length
  · rw [if_pos h1]
    obtain ⟨k, e, k1, k2, k3, k4⟩ := pivK_spec s.X c hr
    rw [e]
    by_cases h2 : k < s.X.length
    · rw [if_pos (by omega)]
      exact .inr ⟨k, k1, h2, k4 h2, rfl⟩
    · rw [if_neg (by omega)]
      exact .inl ⟨rfl, fun z z1 z2 => k3 z z1 (by omega)⟩
  · rw [if_neg h1]
    exact .inl ⟨rfl, fun z z1 z2 => by omega⟩
section
variable {f : Fld} (h : FOk f)
/-- What holds of the rows at the beginning, and is kept by each column, holds in the end. -/
theorem elim_ind {w wy : Nat} {X Y : List (List Int)} (hX : good f w X) (hY : wide wy Y) (hXY : Y = [] ∨ Y.length = X.length) {Φ : (Nat → Nat → KF f h) → (Nat → Nat → KF f h) → Prop}
    (hΦ : ∀ A C A' C', (∀ i j, i < X.length → A i j = A' i j) → (∀ i j, i < X.length → C i j = C' i j) → Φ A C → Φ A' C')
    (hstep : ∀ A C r k c, r ≤ k → k < X.length → A k c ≠ 0 → Φ A C → Φ (La.colA A A r k c) (La.colA A C r k c)) (h0 : Φ (km h X) (km h Y)) : ∀ n : Nat, Φ (km h (elim f X Y n).X) (km h (elim f X Y n).Y)
  | 0 => h0
  | n + 1 => by
    have ih := elim_ind hX hY hXY hΦ hstep h0 n
    have hl := length_elim f X Y n
    have hg := good_elim h.1 (Y := Y) hX n
    have hw := wide_elim (f := f) (X := X) hY hXY n
    have hp := piv_le f X Y n
    show Φ (km h (col f n (elim f X Y n)).X) (km h (col f n (elim f X Y n)).Y)
    rcases col_cases f n (elim f X Y n) (by omega) with ⟨e, _⟩ | ⟨k, k1, k2, k3, e⟩
    · rw [e]; exact ih
    · rw [e]
      have hr := good_ixlt h.1 hg (i := (k : Int)) (by omega) (by omega) n
      have hne : km h (elim f X Y n).X k n ≠ 0 := by
        rw [km_ix]
        exact fun e0 => k3 ((ke_eq_zero h hr.1 hr.2).1 e0)
      have hXY2 : (elim f X Y n).Y = [] ∨ (elim f X Y n).Y.length = (elim f X Y n).X.length := by
        rcases hXY with e | e
        · left; apply List.eq_nil_of_length_eq_zero; rw [hl.2, e]; rfl
        · right; omega
      obtain ⟨q1, q2⟩ := km_colK h hg hw hXY2 (k := k) (c := n) (by omega) k2 hne
      refine hΦ _ _ _ _ (fun i j hi => (q1 i j (by omega)).symm) (fun i j hi => (q2 i j (by omega)).symm) ?_
      exact hstep _ _ _ _ _ k1 (by omega) hne ih
/-- The pivots, as numbers. -/
def pvN (l : List Int) (i : Nat) : Nat := (l.getD i 0).toNat
theorem elim_rref {w : Nat} {X Y : List (List Int)} (hX : good f w X) {wy : Nat} (hY : wide wy Y) (hXY : Y = [] ∨ Y.length = X.length) : ∀ n : Nat, La.Rref (km h (elim f X Y n).X) X.length n (pvN (elim f X Y n).piv) (elim f X Y n).piv.length
  | 0 => La.Rref.zero _ _ _
  | n + 1 => by
    have ih := elim_rref hX hY hXY n
    have hl := length_elim f X Y n
    have hg := good_elim h.1 (Y := Y) hX n
    have hw := wide_elim (f := f) (X := X) hY hXY n
    have hp := piv_le f X Y n
    show La.Rref (km h (col f n (elim f X Y n)).X) X.length (n + 1) (pvN (col f n (elim f X Y n)).piv) (col f n (elim f X Y n)).piv.length
    rcases col_cases f n (elim f X Y n) (by omega) with ⟨e, hz⟩ | ⟨k, k1, k2, k3, e⟩
    · rw [e]
      refine ih.skip fun j h1 h2 => ?_
      rw [km_ix, hz j h1 (by omega), ke_zero]
    · rw [e]
      have hr := good_ixlt h.1 hg (i := (k : Int)) (by omega) (by omega) n
      have hne : km h (elim f X Y n).X k n ≠ 0 := by
        rw [km_ix]
        exact fun e0 => k3 ((ke_eq_zero h hr.1 hr.2).1 e0)
      have hXY2 : (elim f X Y n).Y = [] ∨ (elim f X Y n).Y.length = (elim f X Y n).X.length := by
        rcases hXY with e | e
        · left; apply List.eq_nil_of_length_eq_zero; rw [hl.2, e]; rfl
        · right; omega
      obtain ⟨q1, q2⟩ := km_colK h hg hw hXY2 (k := k) (c := n) (by omega) k2 hne
      have epiv : (colK f n (elim f X Y n) k).piv = (elim f X Y n).piv ++ [(n : Int)] := rfl
      rw [epiv, List.length_append]
      refine ih.step (p' := pvN ((elim f X Y n).piv ++ [(n : Int)])) k1 (by omega) hne ?_ (fun i hi => ?_) (fun i j hi => q1 i j (by omega))
      · simp [pvN, List.getD]
      · simp only [pvN, List.getD]; rw [List.getElem?_append_left hi]
theorem colA_span {K : Type} [Fi K] (A C : Nat → Nat → K) {m r k c : Nat} (hr : r ≤ k) (hk : k < m) (hne : A k c ≠ 0) : (∀ i, i < m → La.Span C m (La.colA A C r k c i)) ∧ (∀ i, i < m → La.Span (La.colA A C r k c) m (C i)) := by
  have hP : La.Span C m (fun j => Fi.inv (A k c) * C k j) := (La.Span.mem hk).smul _
  refine ⟨fun i hi => ?_, fun i hi => ?_⟩
  · by_cases e : i = r
    · refine hP.congr fun j => ?_
      rw [e, La.colA_p]
    · have hB : La.Span C m (fun j => if i = k then C r j else C i j) := by
        by_cases e2 : i = k
        · exact (La.Span.mem (i := r) (by omega)).congr fun j => by rw [if_pos e2]
        · exact (La.Span.mem hi).congr fun j => by rw [if_neg e2]
      refine (hB.add (hP.smul (-(if i = k then A r c else A i c)))).congr fun j => ?_
      unfold La.colA
      rw [if_neg e]
  · have hrm : r < m := by omega
    have hk' : La.Span (La.colA A C r k c) m (C k) := ((La.Span.mem hrm).smul (A k c)).congr fun j => by
      rw [La.colA_p, ← Fi.mul_assoc, Fi.mul_inv hne, Fi.one_mul]
    by_cases e : i = k
    · rw [e]; exact hk'
    · by_cases e2 : i = r
      · subst e2
        -- the row that was exchanged stands at k
        have hki : k ≠ i := Ne.symm e
        refine ((La.Span.mem hk).add ((La.Span.mem (i := i) hi).smul (A i c))).congr fun j => ?_
        rw [La.colA_p]
        unfold La.colA
        rw [if_neg hki, if_pos rfl, if_pos rfl, Fi.add_assoc, ← Fi.add_mul, Fi.neg_add, Fi.zero_mul, Fi.add_zero]
      · refine ((La.Span.mem hi).add ((La.Span.mem (i := r) hrm).smul (A i c))).congr fun j => ?_
        rw [La.colA_p]
        unfold La.colA
        rw [if_neg e2, if_neg e, if_neg e, Fi.add_assoc, ← Fi.add_mul, Fi.neg_add, Fi.zero_mul, Fi.add_zero]
end
end Go.Cw

