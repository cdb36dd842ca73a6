/-
  Determinants.
-/
import Derived.Test.YtamhdlkfhhpdpaaPlainLin
set_option linter.unusedVariables false
set_option linter.unusedSimpArgs false
set_option linter.unusedSectionVars false
namespace Go.Cw
namespace La
variable {K : Type} [Fi K]
def sg (c : Nat) : K := if c % 2 = 1 then -1 else 1
def sk (c j : Nat) : Nat := if j < c then j else j + 1
/-- The determinant, by expansion along the first row. -/
def det : Nat → (Nat → Nat → K) → K
  | 0, _ => 1
  | n + 1, A => sm (fun c => sg c * (A 0 c * det n (fun i j => A (i + 1) (sk c j)))) (n + 1)
/-- A with other columns q and k. -/
def two (A : Nat → Nat → K) (q k : Nat) (u w : Nat → K) : Nat → Nat → K := fun i j => if j = q then u i else if j = k then w i else A i j
/-- Rows told of by what row operations do. -/
structure RowF (n : Nat) (G : (Nat → Nat → K) → K) : Prop where
  congr : ∀ {A B : Nat → Nat → K}, (∀ i j, i < n → j < n → A i j = B i j) → G A = G B
  swap : ∀ (A : Nat → Nat → K) {p k : Nat}, p < n → k < n → p ≠ k → G (fun i => if i = p then A k else if i = k then A p else A i) = -(G A)
  scale : ∀ (A : Nat → Nat → K) {p : Nat} (a : K), p < n → G (fun i j => if i = p then a * A i j else A i j) = a * G A
  add : ∀ (A : Nat → Nat → K) {i p : Nat} (a : K), i < n → p < n → i ≠ p → G (fun i' j => if i' = i then A i' j + a * A p j else A i' j) = G A
theorem RowF.zero {n : Nat} {G : (Nat → Nat → K) → K} (g : RowF n G) {A : Nat → Nat → K} {p : Nat} (hp : p < n) (h : ∀ j, j < n → A p j = 0) : G A = 0 := by
  have := g.scale A (p := p) 0 hp
  rw [Fi.zero_mul] at this
  rw [← this]
  refine g.congr fun i j hi hj => ?_
  split
  · rename_i e; rw [e, h j hj, Fi.zero_mul]
  · rfl
/-- Whatever row operations do to G: rows decide, up to the value at the identity. -/
def Rows (n : Nat) (R : Nat → Nat → K) (d : K) : Prop := ∀ G : (Nat → Nat → K) → K, RowF n G → G R = d * G idm
section
variable {n : Nat} (hR : ∀ R : Nat → Nat → K, ∃ d, Rows n R d)
include hR
end
theorem RowF.col {n : Nat} {G : (Nat → Nat → K) → K} (g : RowF n G) (A : Nat → Nat → K) {r k c : Nat} (hr : r < n) (hk : k < n) (hrk : r ≤ k) (hne : A k c ≠ 0) : (if k ≠ r then -(A k c) else A k c) * G (colA A A r k c) = G A := by
  let B : Nat → Nat → K := fun i => if i = r then A k else if i = k then A r else A i
  let C : Nat → Nat → K := fun i j => if i = r then Fi.inv (A k c) * B i j else B i j
  have hB : G B = if k ≠ r then -(G A) else G A := by
    by_cases e : k = r
    · rw [if_neg (fun h => h e)]
      refine g.congr fun i j _ _ => ?_
      show (if i = r then A k else if i = k then A r else A i) j = _
      by_cases e1 : i = r
      · rw [if_pos e1, e1, e]
      · rw [if_neg e1, if_neg (by omega)]
    · rw [if_pos e]
      exact g.swap A hr hk (Ne.symm e)
  have hC : G C = Fi.inv (A k c) * G B := g.scale B _ hr
  have hcl : ∀ t : Nat, t ≤ n → G (fun i j => if i < t ∧ i ≠ r then C i j + -(C i c) * C r j else C i j) = G C := by
    intro t
    induction t with
    | zero =>
      intro _
      exact g.congr fun i j _ _ => by rw [if_neg (by omega)]
    | succ t ih =>
      intro ht
      rw [← ih (by omega)]
      by_cases e : t = r
      · exact g.congr fun i j _ _ => by
          by_cases h : i < t ∧ i ≠ r
          · rw [if_pos h, if_pos ⟨by omega, h.2⟩]
          · rw [if_neg h, if_neg (by omega)]
      · have := g.add (fun i j => if i < t ∧ i ≠ r then C i j + -(C i c) * C r j else C i j) (i := t) (p := r) (-(C t c)) (by omega) hr e
        rw [← this]
        refine g.congr fun i j _ _ => ?_
        by_cases h : i = t
        · subst h
          rw [if_pos ⟨by omega, e⟩, if_pos rfl, if_neg (by omega), if_neg (by omega)]
        · rw [if_neg h]
          by_cases h2 : i < t ∧ i ≠ r
          · rw [if_pos h2, if_pos ⟨by omega, h2.2⟩]
          · rw [if_neg h2, if_neg (by omega)]
  have hfin : G (colA A A r k c) = G C := by
    rw [← hcl n (Nat.le_refl _)]
    refine g.congr fun i j hi _ => ?_
    unfold colA
    by_cases e : i = r
    · rw [if_pos e, if_neg (by omega)]
      show _ = if i = r then Fi.inv (A k c) * B i j else B i j
      rw [if_pos e]
      show _ = _ * (if i = r then A k else if i = k then A r else A i) j
      rw [if_pos e]
    · rw [if_neg e]
      have c1 : ∀ x, C i x = if i = k then A r x else A i x := fun x => by
        show (if i = r then Fi.inv (A k c) * B i x else B i x) = _
        rw [if_neg e]
        show (if i = r then A k else if i = k then A r else A i) x = _
        rw [if_neg e]
        split <;> rfl
      have c2 : ∀ x, C r x = Fi.inv (A k c) * A k x := fun x => by
        show (if r = r then Fi.inv (A k c) * B r x else B r x) = _
        rw [if_pos rfl]
        show _ * (if r = r then A k else if r = k then A r else A r) x = _
        rw [if_pos rfl]
      rw [if_pos (show i < n ∧ i ≠ r from ⟨hi, e⟩), c1, c1, c2]
  rw [hfin, hC, hB]
  by_cases e : k = r
  · rw [if_neg (fun h => h e), if_neg (fun h => h e), ← Fi.mul_assoc, Fi.mul_inv hne, Fi.one_mul]
  · rw [if_pos e, if_pos e, Fi.mul_neg, Fi.mul_neg, Fi.neg_mul, Fi.neg_neg, ← Fi.mul_assoc, Fi.mul_inv hne, Fi.one_mul]
end La
end Go.Cw

