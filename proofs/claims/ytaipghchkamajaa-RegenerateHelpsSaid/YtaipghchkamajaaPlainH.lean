/-
  Help: plain part.
-/
import Derived.Test.YtaipghchkamajaaPlainR
set_option linter.unusedVariables false
set_option linter.unusedSimpArgs false
set_option linter.unusedSectionVars false
namespace Go.Cw
/-! ### Help of regenerating codes -/
theorem dotTo_congr (f : Fld) (a b c : List Int) : ∀ n : Nat, (∀ i : Int, 0 ≤ i → i < n → ix 0 b i = ix 0 c i) → dotTo f a b n = dotTo f a c n
  | 0, _ => rfl
  | n + 1, h => by
    simp only [dotTo]
    rw [dotTo_congr f a b c n (fun i h0 h1 => h i h0 (by omega)), h (n : Int) (by omega) (by omega)]
theorem dotF_pows (f : Fld) (x : Int) (l : List Int) {a d : Int} (h : (l.length : Int) = a) (hd : a ≤ d) : dotF f l (powsF f x a) = dotF f l (powsF f x d) := by
  unfold dotF powsF
  rw [length_mapR, length_mapR, show min l.length a.toNat = l.length by omega, show min l.length d.toNat = l.length by omega]
  refine dotTo_congr f l _ _ _ (fun i h0 h1 => ?_)
  rw [ix_mapR 0 _ h0 (by omega), ix_mapR 0 _ h0 (by omega)]
open Classical in
noncomputable def lenErr (f : Fld) (l : List Int) (n : Int) : Int := if (l.length : Int) ≠ n then 4 else entErr f l
open Classical in
noncomputable def helpErr (r : Rgn) (x : Int) (l : List Int) : Int :=
  if rgErr r ≠ 0 then rgErr r else if x < 0 ∨ (r.Points.length : Int) ≤ x then 6 else lenErr r.F l (rgA r)
open Classical in
noncomputable def helpF (r : Rgn) (x : Int) (l : List Int) : Int := if helpErr r x l = 0 then dotF r.F l (powsF r.F (ix 0 r.Points x) r.D) else 0
theorem lenErr_len {f : Fld} {l : List Int} {n : Int} (h : lenErr f l n = 0) : (l.length : Int) = n := by
  unfold lenErr at h
  by_cases h2 : (l.length : Int) = n
  · exact h2
  · rw [if_pos h2] at h; omega
theorem rgA_le {r : Rgn} (h : RgOk r) : 1 ≤ r.D ∧ r.D ≤ 63 ∧ rgA r ≤ r.D ∧ 0 ≤ rgA r := by
  have h1 := h.rng
  have h2 := h.len
  unfold rgBad at h1
  unfold rgA
  split <;> omega
end Go.Cw
