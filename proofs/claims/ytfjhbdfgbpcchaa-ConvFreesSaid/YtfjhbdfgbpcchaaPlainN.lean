/-
  The step of an encoder.
-/
import Derived.Test.YtfjhbdfgbpcchaaPlainU
set_option linter.unusedVariables false
set_option linter.unusedSimpArgs false
set_option linter.unusedSectionVars false
namespace Go.Cw
namespace Cnv
variable (c : Cnv) (s : Int) (inn : List Int)
/-- The inputs of row i, of 0 to deg steps ago. -/
def line (i : Int) : List Int := ix 0 inn i :: digS c.F.q (c.deg i).toNat (s / c.fst i)
/-- What the first d entries of row i add to the next state. -/
def nxE (i : Int) : Nat → Int
  | 0 => 0
  | d + 1 => nxE i d + ix 0 (c.line s inn i) d * (c.fst i * c.F.q ^ d)
/-- The next state, as far as the first rows tell. -/
def nxt : Nat → Int
  | 0 => 0
  | i + 1 => nxt i + c.nxE s inn i (c.deg i).toNat
/-- Output j, as far as the first rows tell. -/
def outTo (j : Int) : Nat → Int
  | 0 => 0
  | i + 1 => accF c.F (outTo j i) (c.line s inn i) (ix [] (ix [] c.Gen i) j) ((c.deg i).toNat + 1)
def outL : List Int := mapR (fun j => c.outTo s inn j c.Gen.length) c.n
theorem ix_digS (q : Int) (hq : 0 ≤ q) : ∀ (n : Nat) (v : Int) (i : Nat), i < n → ix 0 (digS q n v) i = v / q ^ i % q
  | 0, _, _, h => by omega
  | n + 1, v, 0, _ => by simp [digS, ix]
  | n + 1, v, i + 1, h => by
    have := ix_digS q hq n (v / q) i (by omega)
    have e : ix 0 (digS q (n + 1) v) ((i + 1 : Nat) : Int) = ix 0 (digS q n (v / q)) (i : Int) := by
      show (v % q :: digS q n (v / q)).getD (((i + 1 : Nat) : Int)).toNat 0 = (digS q n (v / q)).getD ((i : Nat) : Int).toNat 0
      rw [show (((i + 1 : Nat) : Int)).toNat = i + 1 by omega, show ((i : Nat) : Int).toNat = i by omega]; rfl
    rw [e, this, Int.pow_succ, Int.mul_comm (q ^ i) q, Int.ediv_ediv_of_nonneg hq]
theorem ix_line_zero (i : Int) : ix 0 (c.line s inn i) 0 = ix 0 inn i := rfl
theorem ix_line_succ (hq : 2 ≤ c.F.q) {i d : Int} (h0 : 0 ≤ d) (h1 : d < c.deg i) : ix 0 (c.line s inn i) (d + 1) = s / c.fst i / c.F.q ^ d.toNat % c.F.q := by
  have e := ix_digS c.F.q (by omega) (c.deg i).toNat (s / c.fst i) d.toNat (by omega)
  rw [← e]
  unfold line ix
  rw [show (d + 1).toNat = d.toNat + 1 by omega, show ((d.toNat : Nat) : Int).toNat = d.toNat by omega]; rfl
theorem length_line (i : Int) : ((c.line s inn i).length : Int) = c.deg i + 1 := by
  have := c.deg_nonneg i
  unfold line; rw [List.length_cons, length_digS]; omega
theorem nxE_succ {i d : Int} (h : 0 ≤ d) : c.nxE s inn i (d + 1).toNat = c.nxE s inn i d.toNat + ix 0 (c.line s inn i) d * (c.fst i * c.F.q ^ d.toNat) := by
  rw [show (d + 1).toNat = d.toNat + 1 by omega]
  simp only [nxE]
  rw [show ((d.toNat : Nat) : Int) = d by omega]
theorem nxt_succ {i : Int} (h : 0 ≤ i) : c.nxt s inn (i + 1).toNat = c.nxt s inn i.toNat + c.nxE s inn i (c.deg i).toNat := by
  rw [show (i + 1).toNat = i.toNat + 1 by omega]
  simp only [nxt]
  rw [show ((i.toNat : Nat) : Int) = i by omega]
theorem outTo_succ (j : Int) {i : Int} (h : 0 ≤ i) : c.outTo s inn j (i + 1).toNat = accF c.F (c.outTo s inn j i.toNat) (c.line s inn i) (ix [] (ix [] c.Gen i) j) ((c.deg i).toNat + 1) := by
  rw [show (i + 1).toNat = i.toNat + 1 by omega]
  simp only [outTo]
  rw [show ((i.toNat : Nat) : Int) = i by omega]
theorem fst_pos (hq : 2 ≤ c.F.q) (i : Int) : 1 ≤ c.fst i := pow_pos_of c.F.q hq _
/-- The inputs are elements, one for each row. -/
def GoodIn (c : Cnv) (inn : List Int) : Prop := (inn.length : Int) = c.k ∧ ¬ outF c.F inn
theorem line_lt {c : Cnv} {s : Int} {inn : List Int} (hq : 2 ≤ c.F.q) (hg : c.GoodIn inn) {i d : Int} (i0 : 0 ≤ i) (i1 : i < c.Gen.length) (d0 : 0 ≤ d) (d1 : d ≤ c.deg i) : 0 ≤ ix 0 (c.line s inn i) d ∧ ix 0 (c.line s inn i) d < c.F.q := by
  by_cases hd : d = 0
  · subst hd
    rw [ix_line_zero]
    exact outF_no hg.2 (ix_mem 0 inn i0 (by have := hg.1; unfold k at this; omega))
  · obtain ⟨g, rfl⟩ : ∃ g, d = g + 1 := ⟨d - 1, by omega⟩
    rw [ix_line_succ c s inn hq (by omega) (by omega)]
    exact ⟨Int.emod_nonneg _ (by omega), Int.emod_lt_of_pos _ (by omega)⟩
theorem nxE_lt {c : Cnv} {s : Int} {inn : List Int} (hq : 2 ≤ c.F.q) (hg : c.GoodIn inn) {i b : Int} (i0 : 0 ≤ i) (i1 : i < c.Gen.length) (hb0 : 0 ≤ b) (hb : b < c.fst i) : ∀ d : Nat, (d : Int) ≤ c.deg i → 0 ≤ c.nxE s inn i d ∧ b + c.nxE s inn i d < c.fst i * c.F.q ^ d
  | 0, _ => by simp [nxE]; omega
  | d + 1, h => by
    have ih := nxE_lt (s := s) hq hg i0 i1 hb0 hb d (by omega)
    have hl := line_lt (s := s) hq hg i0 i1 (d := (d : Int)) (by omega) (by omega)
    have hp := pow_pos_of c.F.q hq d
    have hf := c.fst_pos hq i
    have hm := Int.mul_nonneg (show 0 ≤ c.fst i by omega) (show 0 ≤ c.F.q ^ d by omega)
    have h1 := Int.mul_nonneg hl.1 hm
    have h2 := Int.mul_le_mul_of_nonneg_right (show ix 0 (c.line s inn i) d ≤ c.F.q - 1 by omega) hm
    simp only [nxE]
    rw [Int.pow_succ, show c.fst i * (c.F.q ^ d * c.F.q) = c.F.q * (c.fst i * c.F.q ^ d) by rw [← Int.mul_assoc, Int.mul_comm]]
    rw [Int.sub_mul, Int.one_mul] at h2
    omega
theorem nxt_lt {c : Cnv} {s : Int} {inn : List Int} (hq : 2 ≤ c.F.q) (hg : c.GoodIn inn) : ∀ i : Nat, i ≤ c.Gen.length → 0 ≤ c.nxt s inn i ∧ c.nxt s inn i < c.fst i
  | 0, _ => by simp [nxt, fst, sumD]
  | i + 1, h => by
    have ih := nxt_lt (s := s) hq hg i (by omega)
    have h1 := nxE_lt (s := s) hq hg (i := (i : Int)) (by omega) (by omega) ih.1 ih.2 (c.deg i).toNat (by have := c.deg_nonneg (i : Int); omega)
    have h2 := c.fst_succ (i := (i : Int)) (by omega)
    simp only [nxt]
    rw [show ((i + 1 : Nat) : Int) = (i : Int) + 1 by omega, h2]
    omega
theorem ix_degs (c : Cnv) {i : Int} (h0 : 0 ≤ i) (h1 : i < c.Gen.length) : ix 0 c.degs i = c.deg i := ix_mapR 0 _ h0 (by unfold k; omega)
theorem ix_fsts (c : Cnv) {i : Int} (h0 : 0 ≤ i) (h1 : i < c.Gen.length) : ix 0 c.fsts i = c.fst i := ix_mapR 0 _ h0 (by unfold k; omega)
theorem ix_trimL (l : List Int) {d : Int} : ix 0 (trimL l) d = ix 0 l d := by
  unfold trimL ix
  simp only [List.getD]
  rw [List.getElem?_take]
  split
  · rfl
  · have := trimN_after l d.toNat (by omega)
    simpa [List.getD] using this.symm
theorem ix_canon (c : Cnv) {i : Int} (h0 : 0 ≤ i) (h1 : i < c.Gen.length) : ix [] c.canon i = (ix [] c.Gen i).map trimL := by
  have : i.toNat < c.Gen.length := by omega
  unfold canon
  simp [ix, List.getD, this]
theorem ix_map_trim (row : List (List Int)) {j : Int} (h0 : 0 ≤ j) (h1 : j < row.length) : ix [] (row.map trimL) j = trimL (ix [] row j) := by
  have : j.toNat < row.length := by omega
  simp [ix, List.getD, this]
theorem coef_eq (c : Cnv) {i j : Int} (h0 : 0 ≤ i) (h1 : i < c.Gen.length) (j0 : 0 ≤ j) (j1 : j < (ix [] c.Gen i).length) (d : Int) : ix 0 (ix [] (ix [] c.canon i) j) d = ix 0 (ix [] (ix [] c.Gen i) j) d := by
  rw [c.ix_canon h0 h1, ix_map_trim _ j0 j1, ix_trimL]
open Classical in
noncomputable def inErr (c : Cnv) (l : List Int) : Int := if (l.length : Int) ≠ c.k then 4 else entErr c.F l
theorem inErr_zero {c : Cnv} {l : List Int} : c.inErr l = 0 ↔ c.GoodIn l := by
  unfold inErr GoodIn
  by_cases h : (l.length : Int) = c.k
  · rw [if_neg (fun g => g h), entErr_zero]; exact ⟨fun g => ⟨h, g⟩, fun g => g.2⟩
  · rw [if_pos h]; exact ⟨fun g => by omega, fun g => absurd g.1 h⟩
/-- Output j of row i, as far as the first d entries tell. -/
def acc (c : Cnv) (s : Int) (inn : List Int) (i d j : Int) : Int := accF c.F (c.outTo s inn j i.toNat) (c.line s inn i) (ix [] (ix [] c.Gen i) j) d.toNat
theorem outTo_lt {c : Cnv} (h : Shape c.F) (s : Int) (inn : List Int) (j : Int) : ∀ i, 0 ≤ c.outTo s inn j i ∧ c.outTo s inn j i < c.F.q
  | 0 => by have := h.bd; simp only [outTo]; omega
  | i + 1 => h.addF_lt _ _
theorem acc_succ (c : Cnv) (s : Int) (inn : List Int) (i j : Int) {d : Int} (h : 0 ≤ d) : c.acc s inn i (d + 1) j = addF c.F (c.acc s inn i d j) (mulF c.F (ix 0 (c.line s inn i) d) (ix 0 (ix [] (ix [] c.Gen i) j) d)) := accF_succ _ _ _ _ h
theorem acc_skip {c : Cnv} (hS : Shape c.F) (s : Int) (inn : List Int) (i j : Int) {d : Int} (h : 0 ≤ d) (hz : ix 0 (c.line s inn i) d = 0) : c.acc s inn i (d + 1) j = c.acc s inn i d j :=
  accF_zero hS (outTo_lt hS s inn j _).1 (outTo_lt hS s inn j _).2 _ _ h hz
theorem acc_all (c : Cnv) (s : Int) (inn : List Int) {i d : Int} (h : 0 ≤ i) (hd : d = c.deg i + 1) (j : Int) : c.acc s inn i d j = c.outTo s inn j (i + 1).toNat := by
  rw [outTo_succ c s inn j h]
  have := c.deg_nonneg i
  unfold acc; rw [show d.toNat = (c.deg i).toNat + 1 by omega]
theorem fst_part {c : Cnv} (hq : 2 ≤ c.F.q) (hb : ¬ c.big) {i d : Int} (h0 : 0 ≤ i) (h1 : i < c.Gen.length) (d0 : 0 ≤ d) (d1 : d ≤ c.deg i) : 1 ≤ c.fst i * c.F.q ^ d.toNat ∧ c.fst i * c.F.q ^ d.toNat ≤ 65536 := by
  have h2 := c.deg_part h0 h1
  have h3 := c.sumD_nonneg i.toNat
  rw [c.fst_add i d d0]
  have h4 := pow_part (c := c) hq (e := c.sumD i.toNat + d) (by unfold total k; omega)
  have h5 := pow_pos_of c.F.q hq (c.sumD i.toNat + d).toNat
  unfold big at hb
  omega
end Cnv
end Go.Cw
