/-
  Messages that reach a distance.
-/
import Derived.Test.YtfjhbdfgbpcchaaPlainX
set_option linter.unusedVariables false
set_option linter.unusedSimpArgs false
set_option linter.unusedSectionVars false
namespace Go.Cw
/-- Some of the first rows has a nonzero entry. -/
def anyW (rows : List (List Int)) : Nat → Bool
  | 0 => false
  | n + 1 => anyW rows n || decide (0 < wt1 (ix [] rows n))
theorem anyW_succ (rows : List (List Int)) {i : Int} (h : 0 ≤ i) : anyW rows (i + 1).toNat = (anyW rows i.toNat || decide (0 < wt1 (ix [] rows i))) := by
  rw [show (i + 1).toNat = i.toNat + 1 by omega, anyW, show ((i.toNat : Nat) : Int) = i by omega]
theorem anyW_dec (rows : List (List Int)) {i : Int} (h : 0 ≤ i) : decide (anyW rows i.toNat = true ∨ 0 < wt1 (ix [] rows i)) = anyW rows (i + 1).toNat := by
  rw [anyW_succ rows h]
  cases anyW rows i.toNat <;> simp
theorem anyW_wt (rows : List (List Int)) : ∀ n : Nat, anyW rows n = true ↔ wtTo rows n ≠ 0
  | 0 => by simp [anyW, wtTo]
  | n + 1 => by
    have ih := anyW_wt rows n
    have h0 := wtTo_nonneg rows n
    have h1 : 0 ≤ wt1 (ix [] rows (n : Int)) := (wt1To_le _ _).1
    rw [anyW, Bool.or_eq_true, ih, decide_eq_true_eq, wtTo]
    omega
theorem anyW_all (rows : List (List Int)) {i : Int} (h : i = rows.length) : anyW rows i.toNat = true ↔ wtL rows ≠ 0 := by
  rw [anyW_wt, h]; rfl
namespace Cnv
variable {c : Cnv}
theorem GoodU.of_term {us : List (List Int)} {d : Int} (h : c.GoodU (c.termTo us d)) : c.GoodU us := fun u hu => h u (List.mem_append_left _ hu)
theorem encL_row {us : List (List Int)} : ∀ r ∈ c.encL us, (r.length : Int) = c.n := by
  intro r hr
  unfold encL mapR at hr
  obtain ⟨t, _, rfl⟩ := List.mem_map.1 hr
  exact length_outL _ _
theorem good_row {us : List (List Int)} (h : c.GoodU us) : ∀ r ∈ us, (r.length : Int) = c.k := fun r hr => (h r hr).1
theorem rch_no {p : Fp} {d : Int} (hq : 2 ≤ c.F.q) (h : c.stepsErr (c.termTo p.Msg d) ≠ 0) : ¬ c.Rch p := fun g => h (stepsErr_zero.2 (GoodU.term hq g.1 d))
theorem accErr_ok {p : Fp} (h0 : c.err = 0) (h : c.Acc p) : c.accErr p = 0 := by unfold accErr; rw [if_pos h0, if_pos h]
theorem accErr_no {p : Fp} (h0 : c.err = 0) (h : ¬ c.Acc p) : c.accErr p = 13 := by unfold accErr; rw [if_pos h0, if_neg h]
theorem accErr_err {p : Fp} (h0 : c.err ≠ 0) : c.accErr p = c.err := if_neg h0
theorem bad_at {p : Fp} {a : Int} (hi : 1 ≤ c.ins) (ha : 0 ≤ a) : c.bad p (a / c.ins) (a % c.ins) ↔
    (0 < a / c.ins ∧ c.eWt a + ix 0 p.Pot (c.eNx a) < ix 0 p.Pot (a / c.ins)) ∨ ((a / c.ins = 0 ∧ 0 < a) ∧ c.eWt a + ix 0 p.Pot (c.eNx a) < p.D) := by
  have hm := Int.emod_nonneg a (show c.ins ≠ 0 by omega)
  have hd := Int.mul_ediv_add_emod a c.ins
  unfold bad eWt eNx
  constructor
  · rintro (h | ⟨⟨h1, h2⟩, h3⟩)
    · exact .inl h
    · refine .inr ⟨⟨h1, ?_⟩, h3⟩
      rw [h1, Int.mul_zero] at hd; omega
  · rintro (h | ⟨⟨h1, h2⟩, h3⟩)
    · exact .inl h
    · refine .inr ⟨⟨h1, ?_⟩, h3⟩
      rw [h1, Int.mul_zero] at hd; omega
/-- The first states have no step that is too light. -/
def GoodS (c : Cnv) (p : Fp) (s : Int) : Prop := ∀ t x : Int, 0 ≤ t → t < s → 0 ≤ x → x < c.ins → ¬ c.bad p t x
def GoodX (c : Cnv) (p : Fp) (s y : Int) : Prop := ∀ x : Int, 0 ≤ x → x < y → ¬ c.bad p s x
theorem GoodS.zero (p : Fp) : c.GoodS p 0 := fun t x h0 h1 => by omega
theorem GoodX.zero (p : Fp) (s : Int) : c.GoodX p s 0 := fun x h0 h1 => by omega
theorem GoodX.succ {p : Fp} {s y : Int} (h : c.GoodX p s y) (h2 : ¬ c.bad p s y) : c.GoodX p s (y + 1) := fun x h0 h1 => by
  by_cases he : x = y
  · rw [he]; exact h2
  · exact h x h0 (by omega)
theorem GoodS.succ {p : Fp} {s y : Int} (h : c.GoodS p s) (hx : c.GoodX p s y) (hy : c.ins ≤ y) : c.GoodS p (s + 1) := fun t x h0 h1 h2 h3 => by
  by_cases he : t = s
  · rw [he]; exact hx x h2 (by omega)
  · exact h t x h0 (by omega) h2 h3
end Cnv
end Go.Cw
