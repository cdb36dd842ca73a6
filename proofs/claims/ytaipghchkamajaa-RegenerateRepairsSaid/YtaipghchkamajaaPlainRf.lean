/-
  Plain facts.
-/
import Derived.Test.YtaipghchkamajaaPlainMt
set_option linter.unusedVariables false
set_option linter.unusedSimpArgs false
set_option linter.unusedSectionVars false
namespace Go.Cw
theorem swp_ph1 (s : El) (Z : List (List Int)) {k : Int} (p1 : s.piv.length < Z.length) : swp [] Z s.piv.length k = ph1 s Z k := by
  unfold ph1
  split
  · rfl
  · rename_i h
    have hk : k = s.piv.length := Classical.not_not.1 h
    subst hk
    unfold swp
    rw [List.set_set]
    apply List.ext_getElem?
    intro j
    have hg : Z[s.piv.length]? = some (ix [] Z (s.piv.length : Int)) := by have := ix_get [] Z (s.piv.length : Int) (by omega) (by omega); simpa using this
    by_cases hj : j = s.piv.length
    · subst hj
      rw [show ((s.piv.length : Int)).toNat = s.piv.length by omega, List.getElem?_set_self (by omega), hg]
    · rw [List.getElem?_set_ne (by omega)]
/-- The rows alone. -/
def clrX (f : Fld) (c p : Int) (X : List (List Int)) (n : Nat) : List (List Int) := (clr f c p X [] n).1
theorem clr_fst (f : Fld) (c p : Int) (X Y : List (List Int)) : ∀ n, (clr f c p X Y n).1 = clrX f c p X n
  | 0 => rfl
  | n + 1 => by
    have ih := clr_fst f c p X Y n
    unfold clrX at ih ⊢
    simp only [clr]
    rw [ih]
    split <;> rfl
theorem clrX_go {f : Fld} {c p : Int} {X : List (List Int)} {i : Int} (h0 : 0 ≤ i) (hc : i ≠ p ∧ ix 0 (ix [] (clrX f c p X i.toNat) i) c ≠ 0) :
    clrX f c p X (i + 1).toNat = (clrX f c p X i.toNat).set i.toNat (addTo f (ix [] (clrX f c p X i.toNat) i) (negF f (ix 0 (ix [] (clrX f c p X i.toNat) i) c)) (ix [] (clrX f c p X i.toNat) p)) := by
  have := clr_go (f := f) (c := c) (p := p) (X := X) (Y := []) (A := clrX f c p X i.toNat) (B := (clr f c p X [] i.toNat).2) h0 rfl hc
  unfold clrX at this ⊢
  rw [this]
theorem clrX_stay {f : Fld} {c p : Int} {X : List (List Int)} {i : Int} (h0 : 0 ≤ i) (hc : ¬ (i ≠ p ∧ ix 0 (ix [] (clrX f c p X i.toNat) i) c ≠ 0)) : clrX f c p X (i + 1).toNat = clrX f c p X i.toNat := by
  have := clr_stay (f := f) (c := c) (p := p) (X := X) (Y := []) (A := clrX f c p X i.toNat) (B := (clr f c p X [] i.toNat).2) h0 rfl hc
  unfold clrX at this ⊢
  rw [this]
theorem length_clrX (f : Fld) (c p : Int) (X : List (List Int)) (n : Nat) : (clrX f c p X n).length = X.length := (length_clr f c p X [] n).1
theorem good_clrX {f : Fld} (hS : Shape f) {w : Nat} {c p : Int} {X : List (List Int)} (h : good f w X) {n : Nat} (hn : n ≤ X.length) : good f w (clrX f c p X n) := good_clr hS h n hn
theorem inv_one {f : Fld} (h : FOk f) {x : Int} (h1 : 1 ≤ x) (h2 : x < f.q) : invF f x = 1 ↔ x = 1 := by
  have hx : inF f x ≠ 0 := by rw [inF_id (by omega) h2]; omega
  have hs := invF_spec h hx
  have hb := h.1.bd
  constructor
  · intro e
    rw [e] at hs
    refine ke_inj (h := h) (by omega) h2 (by omega) (by omega) ?_
    have := congrArg (ke h) hs.1
    rw [ke_mul, ke_one] at this
    rw [ke_one]
    exact (Fi.mul_one (ke h x)).symm.trans this
  · intro e
    subst e
    refine ke_inj (h := h) (by omega) hs.2.2 (by omega) (by omega) ?_
    have := congrArg (ke h) hs.1
    rw [ke_mul, ke_one] at this
    rw [ke_one]
    exact (Fi.one_mul (ke h (invF f 1))).symm.trans this
theorem swp_row {f : Fld} {w : Nat} {s : El} (hg : good f w s.X) {k : Int} (p1 : s.piv.length < s.X.length) (k0 : 0 ≤ k) (k1 : k < s.X.length) : (ix [] (swp [] s.X s.piv.length k) s.piv.length).length = w := by
  rw [ix_swp [] s.X (by omega) (by omega) k0 k1]
  exact wide_ix (good_wide hg) k0 k1
theorem ph2_scale {f : Fld} (h : FOk f) {w : Nat} {c : Int} {s : El} (hg : good f w s.X) {k : Int} (p1 : s.piv.length < s.X.length) (k0 : 0 ≤ k) (k1 : k < s.X.length) (hz : ix 0 (ix [] s.X k) c ≠ 0) (hx : ix 0 (ix [] (swp [] s.X s.piv.length k) s.piv.length) c ≠ 1) :
    (swp [] s.X s.piv.length k).set (s.piv.length : Int).toNat (scaleF f (invF f (ix 0 (ix [] (swp [] s.X s.piv.length k) s.piv.length) c)) (ix [] (swp [] s.X s.piv.length k) s.piv.length)) = ph2 f c s s.X k := by
  rw [swp_ph1 s s.X p1] at hx ⊢
  have hr := good_ixlt h.1 hg k0 k1 c
  have hp := phx_eq (c := c) p1 k0 k1
  unfold phx at hp
  unfold ph2 phx
  rw [if_pos (fun e => hx ((inv_one h (by rw [hp]; omega) (by rw [hp]; omega)).1 e))]
  rfl
theorem ph2_one {f : Fld} (h : FOk f) {w : Nat} {c : Int} {s : El} (hg : good f w s.X) {k : Int} (p1 : s.piv.length < s.X.length) (k0 : 0 ≤ k) (k1 : k < s.X.length) (hz : ix 0 (ix [] s.X k) c ≠ 0) (hx : ¬ ix 0 (ix [] (swp [] s.X s.piv.length k) s.piv.length) c ≠ 1) :
    swp [] s.X s.piv.length k = ph2 f c s s.X k := by
  rw [swp_ph1 s s.X p1] at hx ⊢
  have hb := h.1.bd
  unfold ph2 phx
  rw [if_neg (fun e => e ((inv_one h (by omega) (by rw [Classical.not_not.1 hx]; omega)).2 (Classical.not_not.1 hx)))]
theorem rows_next {f : Fld} {X Y : List (List Int)} {c k : Int} (h0 : 0 ≤ c) (hp : (elim f X Y c.toNat).piv.length < X.length) (hk : pivK (elim f X Y c.toNat).X c (elim f X Y c.toNat).piv.length = k) (h1 : k < X.length) :
    (elim f X Y (c + 1).toNat).X = clrX f c (elim f X Y c.toNat).piv.length (ph2 f c (elim f X Y c.toNat) (elim f X Y c.toNat).X k) X.length ∧ (elim f X Y (c + 1).toNat).piv = (elim f X Y c.toNat).piv ++ [c] := by
  rw [elim_next h0 hp hk h1]
  refine ⟨?_, rfl⟩
  show (clr _ _ _ _ _ _).1 = _
  rw [clr_fst, (length_elim f X Y c.toNat).1]
theorem offR_at {E : El} {cols j : Int} (j0 : E.piv.length ≤ j) (j1 : j < E.X.length) (h : ix 0 (ix [] E.X j) cols ≠ 0) : offR E cols := by
  refine ⟨ix [] E.X j, ?_, h⟩
  have hg := ix_get [] E.X j (by omega) j1
  refine List.mem_of_getElem? (i := j.toNat - E.piv.length) ?_
  rw [List.getElem?_drop, show E.piv.length + (j.toNat - E.piv.length) = j.toNat by omega]
  exact hg
theorem offR_none {E : El} {cols : Int} (h : ∀ z : Int, E.piv.length ≤ z → z < E.X.length → ix 0 (ix [] E.X z) cols = 0) : ¬ offR E cols := by
  rintro ⟨l, hl, hne⟩
  obtain ⟨i, hi⟩ := List.mem_iff_getElem?.1 hl
  rw [List.getElem?_drop] at hi
  have hlt := (List.getElem?_eq_some_iff.1 hi).1
  have := h ((E.piv.length + i : Nat) : Int) (by omega) (by omega)
  rw [show ix [] E.X ((E.piv.length + i : Nat) : Int) = l by simp only [ix, List.getD]; rw [show (((E.piv.length + i : Nat) : Int)).toNat = E.piv.length + i by omega, hi]; rfl] at this
  exact hne this
instance : DecidableEq Mat := fun a b => decidable_of_iff (a.cols = b.cols ∧ a.rows = b.rows) (by cases a; cases b; simp)
end Go.Cw

