/-
  Weights.
-/
import Derived.Test.YtfjhbdfgbpcchaaPlainS
set_option linter.unusedVariables false
set_option linter.unusedSimpArgs false
set_option linter.unusedSectionVars false
namespace Go.Cw
/-! ### Weights -/
def wt1To (l : List Int) : Nat → Int
  | 0 => 0
  | n + 1 => wt1To l n + if ix 0 l n = 0 then 0 else 1
def wt1 (l : List Int) : Int := wt1To l l.length
def wtTo (rows : List (List Int)) : Nat → Int
  | 0 => 0
  | n + 1 => wtTo rows n + wt1 (ix [] rows n)
def wtL (rows : List (List Int)) : Int := wtTo rows rows.length
theorem wt1To_succ (l : List Int) {j : Int} (h : 0 ≤ j) : wt1To l (j + 1).toNat = wt1To l j.toNat + if ix 0 l j = 0 then 0 else 1 := by
  rw [show (j + 1).toNat = j.toNat + 1 by omega, wt1To, show ((j.toNat : Nat) : Int) = j by omega]
theorem wtTo_succ (rows : List (List Int)) {i : Int} (h : 0 ≤ i) : wtTo rows (i + 1).toNat = wtTo rows i.toNat + wt1 (ix [] rows i) := by
  rw [show (i + 1).toNat = i.toNat + 1 by omega, wtTo, show ((i.toNat : Nat) : Int) = i by omega]
theorem wt1To_le (l : List Int) : ∀ n : Nat, 0 ≤ wt1To l n ∧ wt1To l n ≤ n
  | 0 => by simp [wt1To]
  | n + 1 => by have := wt1To_le l n; simp only [wt1To]; split <;> omega
theorem wtTo_nonneg (rows : List (List Int)) : ∀ n, 0 ≤ wtTo rows n
  | 0 => Int.le_refl _
  | n + 1 => by have := wtTo_nonneg rows n; have := (wt1To_le (ix [] rows n) (ix [] rows n).length).1; simp only [wtTo, wt1]; omega
theorem wtTo_le (rows : List (List Int)) {b : Int} (hb : 0 ≤ b) (h : ∀ r ∈ rows, (r.length : Int) ≤ b) : ∀ n : Nat, n ≤ rows.length → wtTo rows n ≤ b * n
  | 0, _ => by simp [wtTo]
  | n + 1, hn => by
    have ih := wtTo_le rows hb h n (by omega)
    have h1 := (wt1To_le (ix [] rows n) (ix [] rows n).length).2
    have h2 := h _ (ix_mem [] rows (i := (n : Int)) (by omega) (by omega))
    simp only [wtTo, wt1]
    rw [show ((n + 1 : Nat) : Int) = (n : Int) + 1 by omega, Int.mul_add, Int.mul_one]; omega
theorem wt1_zero_iff (l : List Int) : wt1 l = 0 ↔ ∀ x ∈ l, x = 0 := by
  have key : ∀ n : Nat, n ≤ l.length → (wt1To l n = 0 ↔ ∀ x ∈ l.take n, x = 0) := by
    intro n
    induction n with
    | zero => intro _; simp [wt1To]
    | succ n ih =>
      intro hn
      have ih := ih (by omega)
      have h1 := wt1To_le l n
      have h2 := take_succ_ix 0 l (i := (n : Int)) (by omega) (by omega)
      rw [show ((n : Int) + 1).toNat = n + 1 by omega, show (n : Int).toNat = n by omega] at h2
      rw [h2, wt1To]
      constructor
      · intro h x hx
        have h3 : wt1To l n = 0 ∧ ix 0 l (n : Int) = 0 := by split at h <;> rename_i g; exact ⟨by omega, g⟩; omega
        rcases List.mem_append.1 hx with hx | hx
        · exact ih.1 h3.1 x hx
        · rw [List.mem_singleton] at hx; rw [hx]; exact h3.2
      · intro h
        rw [ih.2 (fun x hx => h x (List.mem_append_left _ hx)), if_pos (h _ (by simp))]; rfl
  have := key l.length (Nat.le_refl _)
  rw [List.take_length] at this
  exact this
theorem wt1_replicate (n : Nat) : wt1 (List.replicate n 0) = 0 := (wt1_zero_iff _).2 (fun x hx => List.eq_of_mem_replicate hx)
theorem wtL_single (l : List Int) : wtL [l] = wt1 l := by show (0 : Int) + wt1 (ix [] [l] ((0 : Nat) : Int)) = _; rw [Int.zero_add]; rfl
end Go.Cw
