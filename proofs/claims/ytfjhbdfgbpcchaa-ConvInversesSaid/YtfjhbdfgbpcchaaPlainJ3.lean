/-
  Plain facts.
-/
import Derived.Test.YtfjhbdfgbpcchaaPlainJ1
set_option linter.unnecessarySimpa false
set_option linter.unusedVariables false
set_option linter.unusedSimpArgs false
set_option linter.unusedSectionVars false
namespace Go.Cw
namespace Cnv
variable (c : Cnv) (s : Int) (inn : List Int)
def line (i : Int) : List Int := ix 0 inn i :: digS c.F.q (c.deg i).toNat (s / c.fst i)
def nxE (i : Int) : Nat → Int
 | 0 => 0
 | d + 1 => nxE i d + ix 0 (c.line s inn i) d * (c.fst i * c.F.q ^ d)
def nxt : Nat → Int
 | 0 => 0
 | i + 1 => nxt i + c.nxE s inn i (c.deg i).toNat
def outTo (j : Int) : Nat → Int
 | 0 => 0
 | i + 1 => accF c.F (outTo j i) (c.line s inn i) (ix [] (ix [] c.Gen i) j) ((c.deg i).toNat + 1)
def outL : List Int := mapR (fun j => c.outTo s inn j c.Gen.length) c.n
def GoodIn (c : Cnv) (inn : List Int) : Prop := (inn.length : Int) = c.k ∧ ¬ outF c.F inn
theorem ix_trimL (l : List Int) {d : Int} : ix 0 (trimL l) d = ix 0 l d := by
 unfold trimL ix
 simp only [List.getD]
 rw [List.getElem?_take]
 split
 ·rfl
 ·have := trimN_after l d.toNat (by omega)
  simpa [List.getD] using this.symm
open Classical in
noncomputable def inErr (c : Cnv) (l : List Int) : Int := if (l.length : Int) ≠ c.k then 4 else entErr c.F l
theorem inErr_zero {c : Cnv} {l : List Int} : c.inErr l = 0 ↔ c.GoodIn l := by
 unfold inErr GoodIn
 by_cases h : (l.length : Int) = c.k
 ·rw [if_neg (fun g => g h), entErr_zero]; exact ⟨fun g => ⟨h, g⟩, fun g => g.2⟩
 ·rw [if_pos h]; exact ⟨fun g => by omega, fun g => absurd g.1 h⟩
def acc (c : Cnv) (s : Int) (inn : List Int) (i d j : Int) : Int := accF c.F (c.outTo s inn j i.toNat) (c.line s inn i) (ix [] (ix [] c.Gen i) j) d.toNat
end Cnv
end Go.Cw
set_option linter.unusedVariables false
set_option linter.unusedSimpArgs false
set_option linter.unusedSectionVars false
namespace Go.Cw
namespace Cnv
end Cnv
end Go.Cw
