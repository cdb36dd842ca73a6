/-
  Arithmetic on codes, sums.
-/
import Derived.Test.YtfjhbdfgbpcchaaPlainT
set_option linter.unusedVariables false
set_option linter.unusedSimpArgs false
set_option linter.unusedSectionVars false
namespace Go.Cw
/-! ### Arithmetic on codes -/
namespace Shape
variable {f : Fld}
/-- The residue of a code, of 0 outside. -/
def e (f : Fld) (x : Int) : f.R.V := f.R.elt (inF f x)
theorem e_inj (h : Shape f) {x y : Int} (h0 : 0 ≤ x) (h1 : x < f.q) (g0 : 0 ≤ y) (g1 : y < f.q) (he : e f x = e f y) : x = y := by
  have hc : (f.p : Int) ^ f.R.m = f.q := card h
  unfold e at he
  rw [inF_id h0 h1, inF_id g0 g1] at he
  rw [← Rg.num_elt f.R h0 (by rw [hc]; exact h1), ← Rg.num_elt f.R g0 (by rw [hc]; exact g1), he]
theorem e_add (h : Shape f) (x y : Int) : e f (addF f x y) = f.R.vadd (e f x) (e f y) := by
  have := addF_lt h x y
  unfold e
  rw [inF_id this.1 this.2]
  exact Rg.elt_addc f.R _ _
theorem e_mul (h : Shape f) (x y : Int) : e f (mulF f x y) = f.R.mul (e f x) (e f y) := by
  have := mulF_lt h x y
  unfold e
  rw [inF_id this.1 this.2]
  exact Rg.elt_mulc f.R _ _
theorem e_zero (h : Shape f) : e f 0 = f.R.vzero := by
  have := h.bd
  unfold e
  rw [inF_id (by omega) (by omega)]
  exact Rg.elt_zero f.R
theorem e_in (h : Shape f) (x : Int) : e f (inF f x) = e f x := by
  have := inF_lt h x
  unfold e
  rw [inF_id this.1 this.2]
theorem addF_comm (h : Shape f) (x y : Int) : addF f x y = addF f y x := by
  have h1 := addF_lt h x y
  have h2 := addF_lt h y x
  refine e_inj h h1.1 h1.2 h2.1 h2.2 ?_
  rw [e_add h, e_add h]
  funext j
  show (e f x) j + (e f y) j = (e f y) j + (e f x) j
  grind
theorem addF_assoc (h : Shape f) (x y z : Int) : addF f (addF f x y) z = addF f x (addF f y z) := by
  have h1 := addF_lt h (addF f x y) z
  have h2 := addF_lt h x (addF f y z)
  refine e_inj h h1.1 h1.2 h2.1 h2.2 ?_
  rw [e_add h, e_add h, e_add h, e_add h]
  funext j
  show (e f x) j + (e f y) j + (e f z) j = (e f x) j + ((e f y) j + (e f z) j)
  grind
theorem addF_zero (h : Shape f) (x : Int) : addF f x 0 = inF f x := by
  have h1 := addF_lt h x 0
  have h2 := inF_lt h x
  refine e_inj h h1.1 h1.2 h2.1 h2.2 ?_
  rw [e_add h, e_zero h, e_in h]
  funext j
  exact Fin.add_zero _
theorem zero_addF (h : Shape f) (x : Int) : addF f 0 x = inF f x := by rw [addF_comm h, addF_zero h]
end Shape
/-- A sum that begins with b. -/
def accF (f : Fld) (b : Int) (l p : List Int) : Nat → Int
  | 0 => b
  | n + 1 => addF f (accF f b l p n) (mulF f (ix 0 l n) (ix 0 p n))
theorem accF_succ (f : Fld) (b : Int) (l p : List Int) {d : Int} (h : 0 ≤ d) : accF f b l p (d + 1).toNat = addF f (accF f b l p d.toNat) (mulF f (ix 0 l d) (ix 0 p d)) := by
  rw [show (d + 1).toNat = d.toNat + 1 by omega]
  simp only [accF]
  rw [show ((d.toNat : Nat) : Int) = d by omega]
theorem accF_lt {f : Fld} (h : Shape f) {b : Int} (h0 : 0 ≤ b) (h1 : b < f.q) (l p : List Int) : ∀ n, 0 ≤ accF f b l p n ∧ accF f b l p n < f.q
  | 0 => ⟨h0, h1⟩
  | n + 1 => h.addF_lt _ _
theorem accF_dot {f : Fld} (h : Shape f) {b : Int} (h0 : 0 ≤ b) (h1 : b < f.q) (l p : List Int) : ∀ n, accF f b l p n = addF f b (dotTo f l p n)
  | 0 => by simp only [accF, dotTo]; rw [h.addF_zero, inF_id h0 h1]
  | n + 1 => by simp only [accF, dotTo]; rw [accF_dot h h0 h1 l p n, h.addF_assoc]
theorem dotTo_lt {f : Fld} (h : Shape f) (l p : List Int) : ∀ n, 0 ≤ dotTo f l p n ∧ dotTo f l p n < f.q
  | 0 => by have := h.bd; simp only [dotTo]; omega
  | n + 1 => h.addF_lt _ _
/-- Beyond the end of one list nothing is added. -/
theorem dotTo_end {f : Fld} (h : Shape f) {l p : List Int} {n : Nat} (hz : ∀ k : Nat, n ≤ k → inF f (ix 0 l k) = 0 ∨ inF f (ix 0 p k) = 0) : ∀ k, dotTo f l p (n + k) = dotTo f l p n
  | 0 => rfl
  | k + 1 => by
    show addF f (dotTo f l p (n + k)) (mulF f (ix 0 l ((n + k : Nat) : Int)) (ix 0 p ((n + k : Nat) : Int))) = _
    have h2 := dotTo_lt h l p n
    rw [mulF_zero h (hz (n + k) (by omega)), h.addF_zero, dotTo_end h hz k, inF_id h2.1 h2.2]
theorem accF_zero {f : Fld} (h : Shape f) {b : Int} (h0 : 0 ≤ b) (h1 : b < f.q) (l p : List Int) {d : Int} (hd : 0 ≤ d) (hz : ix 0 l d = 0) : accF f b l p (d + 1).toNat = accF f b l p d.toNat := by
  have h2 := accF_lt h h0 h1 l p d.toNat
  rw [accF_succ f b l p hd, hz, mulF_zero h (.inl (by have := h.bd; exact inF_id (by omega) (by omega))), h.addF_zero, inF_id h2.1 h2.2]
end Go.Cw
