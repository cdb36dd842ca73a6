/-
  Plain facts.
-/
import Derived.Test.YtaipghchkamajaaPlainR
set_option linter.unusedVariables false
set_option linter.unusedSimpArgs false
set_option linter.unusedSectionVars false
namespace Go.Cw
open Classical in
noncomputable def lenErr (f : Fld) (l : List Int) (n : Int) : Int := if (l.length : Int) ≠ n then 4 else entErr f l
theorem lenErr_len {f : Fld} {l : List Int} {n : Int} (h : lenErr f l n = 0) : (l.length : Int) = n := by
  unfold lenErr at h
  by_cases h2 : (l.length : Int) = n
  · exact h2
  · rw [if_pos h2] at h; omega
theorem rgA_le {r : Rgn} (h : RgOk r) : 1 ≤ r.D ∧ r.D ≤ 63 ∧ rgA r ≤ r.D ∧ 0 ≤ rgA r := by
  have h1 := h.rng
  have h2 := h.len
  unfold rgBad at h1
  unfold rgA
  split <;> omega
end Go.Cw

