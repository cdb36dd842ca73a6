/-
  Plain facts.
-/
import Derived.Test.YtfjhbdfgbpcchaaPlainJ3
set_option linter.unusedVariables false
set_option linter.unusedSimpArgs false
set_option linter.unusedSectionVars false
namespace Go.Cw
namespace Cnv
variable {c : Cnv} {s : Int} {inn : List Int}
def dg (c : Cnv) (s i d : Int) : Int := s / c.fst i / c.F.q ^ d.toNat % c.F.q
def GoodU (c : Cnv) (us : List (List Int)) : Prop := ∀ u ∈ us, c.GoodIn u
noncomputable def stepsErr (c : Cnv) : List (List Int) → Int
 | [] => 0
 | u :: us => if c.inErr u = 0 then stepsErr c us else c.inErr u
theorem stepsErr_zero {c : Cnv} : ∀ {us : List (List Int)}, c.stepsErr us = 0 ↔ c.GoodU us
 | [] => ⟨fun _ u h => absurd h (by simp), fun _ => rfl⟩
 | u :: us => by
  unfold stepsErr
  by_cases h : c.inErr u = 0
  ·rw [if_pos h, stepsErr_zero]
   constructor
   ·intro g v hv
    rcases List.mem_cons.1 hv with rfl | hv
    ·exact inErr_zero.1 h
    ·exact g v hv
   ·exact fun g v hv => g v (List.mem_cons_of_mem _ hv)
  ·rw [if_neg h]
   exact ⟨fun g => absurd g h, fun g => absurd (inErr_zero.2 (g u (by simp))) h⟩
def OkTo (c : Cnv) (us : List (List Int)) (t : Int) : Prop := ∀ u ∈ us.take t.toNat, c.inErr u = 0
theorem OkTo.zero (c : Cnv) (us : List (List Int)) : c.OkTo us 0 := by intro u h; simp at h
theorem OkTo.succ {us : List (List Int)} {t : Int} (h : c.OkTo us t) (h0 : 0 ≤ t) (h1 : t < us.length) (h2 : c.inErr (ix [] us t) = 0) : c.OkTo us (t + 1) := by
 intro u hu
 rw [take_succ_ix [] us h0 h1] at hu
 rcases List.mem_append.1 hu with hu | hu
 ·exact h u hu
 ·rw [List.mem_singleton] at hu; rw [hu]; exact h2
theorem OkTo.all {us : List (List Int)} {t : Int} (h : c.OkTo us t) (h1 : us.length ≤ t) : c.stepsErr us = 0 := by
 refine stepsErr_zero.2 fun u hu => inErr_zero.1 (h u ?_)
 rw [List.take_of_length_le (by omega)]; exact hu
def encS (c : Cnv) (us : List (List Int)) : Nat → Int
 | 0 => 0
 | t + 1 => c.nxt (encS c us t) (ix [] us t) c.Gen.length
def encO (c : Cnv) (us : List (List Int)) (t : Int) : List Int := c.outL (c.encS us t.toNat) (ix [] us t)
def encL (c : Cnv) (us : List (List Int)) : List (List Int) := mapR (c.encO us) us.length
theorem GoodU.at {us : List (List Int)} (h : c.GoodU us) {t : Int} (h0 : 0 ≤ t) (h1 : t < us.length) : c.GoodIn (ix [] us t) := h _ (ix_mem [] us h0 h1)
def back (us : List (List Int)) (i t : Int) : List Int := mapR (fun d => ix 0 (ix [] us (t - d)) i) (t + 1)
noncomputable def encErr (c : Cnv) (us : List (List Int)) : Int := if c.err = 0 then c.stepsErr us else c.err
noncomputable def encE (c : Cnv) (us : List (List Int)) : List (List Int) := if c.encErr us = 0 then c.encL us else []
end Cnv
end Go.Cw
namespace Go.Cw
namespace Cnv
end Cnv
end Go.Cw
