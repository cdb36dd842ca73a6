/-
  The cut-set bound as a sum.
-/
import Derived.Test.YtaipghchkamajaaPlainG
set_option linter.unusedVariables false
set_option linter.unusedSimpArgs false
set_option linter.unusedSectionVars false
namespace Go.Cw
/-! ### The cut-set bound -/
def cutBad (k d a b : Int) : Prop := k < 1 ∨ d < k ∨ 64 < d ∨ a < 0 ∨ 1048576 < a ∨ b < 0 ∨ 1048576 < b
instance (k d a b : Int) : Decidable (cutBad k d a b) := by unfold cutBad; infer_instance
def cutSum (d a b : Int) : Nat → Int
  | 0 => 0
  | n + 1 => cutSum d a b n + min a ((d - n) * b)
theorem cut_term (d a b : Int) (n : Int) (h : ¬ cutBad (n + 1) d a b) (hn : 0 ≤ n) : 0 ≤ (d - n) * b ∧ (d - n) * b ≤ 67108864 ∧ 0 ≤ d - n ∧ d - n ≤ 64 := by
  unfold cutBad at h
  have h1 : 0 ≤ d - n := by omega
  have h2 : d - n ≤ 64 := by omega
  have h3 : 0 ≤ b := by omega
  have h4 : b ≤ 1048576 := by omega
  refine ⟨Int.mul_nonneg h1 h3, ?_, h1, h2⟩
  have := Int.mul_le_mul h2 h4 h3 (by omega)
  omega
theorem cutSum_le (k d a b : Int) (h : ¬ cutBad k d a b) : ∀ n : Nat, (n : Int) ≤ k → 0 ≤ cutSum d a b n ∧ cutSum d a b n ≤ 1048576 * n := by
  intro n
  induction n with
  | zero => intro _; simp [cutSum]
  | succ n ih =>
    intro hn
    have h1 := ih (by omega)
    have h2 := cut_term d a b n (by unfold cutBad at h ⊢; omega) (by omega)
    unfold cutBad at h
    unfold cutSum
    omega
theorem cutSum_succ (d a b : Int) (i : Int) (h : 0 ≤ i) : cutSum d a b (i + 1).toNat = cutSum d a b i.toNat + min a ((d - i) * b) := by
  rw [show (i + 1).toNat = i.toNat + 1 by omega, cutSum, show ((i.toNat : Nat) : Int) = i by omega]
theorem cut_step (k d a b i : Int) (h : ¬ cutBad k d a b) (h0 : 0 ≤ i) (h1 : i < k) :
    (0 ≤ (d - i) * b ∧ (d - i) * b ≤ 67108864) ∧ (0 ≤ cutSum d a b i.toNat ∧ cutSum d a b i.toNat ≤ 67108864) ∧ (0 ≤ min a ((d - i) * b) ∧ min a ((d - i) * b) ≤ 1048576) := by
  have h2 := cut_term d a b i (by unfold cutBad at h ⊢; omega) h0
  have h3 := cutSum_le k d a b h i.toNat (by omega)
  unfold cutBad at h
  refine ⟨⟨h2.1, h2.2.1⟩, ⟨h3.1, by omega⟩, by omega⟩

theorem cut_opt0 (d : Int) : ∀ n : Nat, (n : Int) ≤ d → 2 * cutSum d d 1 n = 2 * (n * d) - n * (n - 1)
  | 0, _ => by simp [cutSum]
  | n + 1, h => by
    have ih := cut_opt0 d n (by omega)
    simp only [cutSum]
    have h1 : min d ((d - (n : Int)) * 1) = d - n := by rw [Int.mul_one]; omega
    rw [h1]
    have e1 : ((n + 1 : Nat) : Int) * d = n * d + d := by rw [Int.natCast_add, Int.add_mul]; simp
    have e2 : ((n + 1 : Nat) : Int) * (((n + 1 : Nat) : Int) - 1) = n * (n - 1) + 2 * n := by
      have : ((n + 1 : Nat) : Int) = n + 1 := rfl
      rw [this]; grind
    rw [e1, e2]; omega
theorem cut_opt1 (d a : Int) : ∀ n : Nat, (n : Int) + a ≤ d + 1 → cutSum d a 1 n = n * a
  | 0, _ => by simp [cutSum]
  | n + 1, h => by
    have ih := cut_opt1 d a n (by omega)
    simp only [cutSum]
    have h1 : min a ((d - (n : Int)) * 1) = a := by rw [Int.mul_one]; omega
    rw [h1, ih, Int.natCast_add, Int.add_mul]; simp
theorem min_scale (t s a x : Int) (h0 : 0 ≤ s) (h1 : s < t) (ha : 0 ≤ a) (hx : 0 ≤ x) : min (t * a) (x * s) ≤ t * min a (x * 1) := by
  rw [Int.mul_one]
  by_cases h : a ≤ x
  · have e : min a x = a := Int.min_eq_left h
    rw [e]; exact Int.min_le_left _ _
  · have e : min a x = x := Int.min_eq_right (by omega)
    rw [e]
    refine Int.le_trans (Int.min_le_right _ _) ?_
    rw [Int.mul_comm t x]
    exact Int.mul_le_mul_of_nonneg_left (by omega) hx
theorem min_scale_lt (t s a x : Int) (h0 : 0 ≤ s) (h1 : s < t) (hxa : x ≤ a) (hx : 1 ≤ x) : min (t * a) (x * s) < t * min a (x * 1) := by
  have e : min a x = x := Int.min_eq_right hxa
  rw [Int.mul_one, e]
  refine Int.lt_of_le_of_lt (Int.min_le_right _ _) ?_
  rw [Int.mul_comm t x]
  exact Int.mul_lt_mul_of_pos_left h1 (by omega)
theorem cut_scale (d a t s : Int) (h0 : 0 ≤ s) (h1 : s < t) (ha : 0 ≤ a) : ∀ n : Nat, (n : Int) ≤ d → cutSum d (t * a) s n ≤ t * cutSum d a 1 n
  | 0, _ => by simp [cutSum]
  | n + 1, h => by
    have ih := cut_scale d a t s h0 h1 ha n (by omega)
    have h2 := min_scale t s a (d - n) h0 h1 ha (by omega)
    simp only [cutSum]
    rw [Int.mul_add]; omega
theorem cut_scale_lt (d a t s : Int) (h0 : 0 ≤ s) (h1 : s < t) (ha : 0 ≤ a) (n : Nat) (h : (n : Int) + 1 ≤ d) (hl : d - n ≤ a) : cutSum d (t * a) s (n + 1) < t * cutSum d a 1 (n + 1) := by
  have h2 := cut_scale d a t s h0 h1 ha n (by omega)
  have h3 := min_scale_lt t s a (d - n) h0 h1 hl (by omega)
  simp only [cutSum]
  rw [Int.mul_add]; omega
end Go.Cw
