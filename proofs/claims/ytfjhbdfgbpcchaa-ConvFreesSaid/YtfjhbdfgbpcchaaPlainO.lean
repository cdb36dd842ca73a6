/-
  The lines of a step; Next.
-/
import Derived.Test.YtfjhbdfgbpcchaaPlainN
set_option linter.unusedVariables false
set_option linter.unusedSimpArgs false
set_option linter.unusedSectionVars false
namespace Go.Cw
theorem digS_snoc (q : Int) (hq : 0 ≤ q) : ∀ (n : Nat) (v : Int), digS q (n + 1) v = digS q n v ++ [v / q ^ n % q]
  | 0, v => by simp [digS]
  | n + 1, v => by
    have ih := digS_snoc q hq n (v / q)
    rw [show digS q (n + 1 + 1) v = v % q :: digS q (n + 1) (v / q) from rfl, ih]
    rw [show digS q (n + 1) v = v % q :: digS q n (v / q) from rfl, List.cons_append, Int.pow_succ, Int.mul_comm (q ^ n) q, Int.ediv_ediv_of_nonneg hq]
namespace Cnv
/-- The line of row i, as far as d digits tell. -/
def lineTo (c : Cnv) (s : Int) (inn : List Int) (i d : Int) : List Int := ix 0 inn i :: digS c.F.q d.toNat (s / c.fst i)
theorem lineTo_zero (c : Cnv) (s : Int) (inn : List Int) (i : Int) : c.lineTo s inn i 0 = [ix 0 inn i] := rfl
theorem lineTo_succ (c : Cnv) (s : Int) (inn : List Int) {i d : Int} (hq : 2 ≤ c.F.q) (d0 : 0 ≤ d) : c.lineTo s inn i (d + 1) = c.lineTo s inn i d ++ [s / c.fst i / c.F.q ^ d.toNat % c.F.q] := by
  unfold lineTo
  rw [show (d + 1).toNat = d.toNat + 1 by omega, digS_snoc c.F.q (by omega)]; rfl
theorem lineTo_all (c : Cnv) (s : Int) (inn : List Int) {i d : Int} (h : d = c.deg i) : c.lineTo s inn i d = c.line s inn i := by subst h; rfl
theorem rowDeg_of_mem (row : List (List Int)) {j : Int} (h0 : 0 ≤ j) (h1 : j < row.length) : (trimN (ix [] row j) : Int) - 1 ≤ degOf row := by
  have key : ∀ n : Nat, j < n → (trimN (ix [] row j) : Int) - 1 ≤ rowDeg row n := by
    intro n
    induction n with
    | zero => intro h; omega
    | succ n ih =>
      intro h
      simp only [rowDeg]
      by_cases hj : j = (n : Int)
      · rw [← hj]; omega
      · have := ih (by omega); omega
  exact key row.length (by omega)
theorem gen_zero (c : Cnv) {i j : Int} (j0 : 0 ≤ j) (j1 : j < (ix [] c.Gen i).length) {d : Int} (hd : c.deg i < d) : ix 0 (ix [] (ix [] c.Gen i) j) d = 0 := by
  have h := rowDeg_of_mem (ix [] c.Gen i) j0 j1
  have := c.deg_nonneg i
  exact trimN_after _ _ (by unfold deg at hd; omega)
theorem dotF_line {c : Cnv} (hS : Shape c.F) (s : Int) (inn : List Int) {i j : Int} (j0 : 0 ≤ j) (j1 : j < (ix [] c.Gen i).length) :
    dotF c.F (c.line s inn i) (ix [] (ix [] c.Gen i) j) = dotTo c.F (c.line s inn i) (ix [] (ix [] c.Gen i) j) ((c.deg i).toNat + 1) := by
  have hl := c.length_line s inn i
  have hd := c.deg_nonneg i
  have hz : inF c.F 0 = 0 := by have := hS.bd; exact inF_id (by omega) (by omega)
  unfold dotF
  by_cases hg : ((ix [] (ix [] c.Gen i) j).length : Int) ≤ c.deg i
  · have e := dotTo_end hS (l := c.line s inn i) (p := ix [] (ix [] c.Gen i) j) (n := (ix [] (ix [] c.Gen i) j).length) (fun k hk => .inr (by
      have : ix 0 (ix [] (ix [] c.Gen i) j) (k : Int) = 0 := by
        unfold ix; simp [List.getD]; rw [List.getElem?_eq_none (by simpa [ix] using hk)]; rfl
      rw [this, hz])) ((c.deg i).toNat + 1 - (ix [] (ix [] c.Gen i) j).length)
    rw [← show (ix [] (ix [] c.Gen i) j).length + ((c.deg i).toNat + 1 - (ix [] (ix [] c.Gen i) j).length) = (c.deg i).toNat + 1 by omega, e]
    congr 1; omega
  · congr 1; omega
theorem outTo_dot {c : Cnv} (hS : Shape c.F) (s : Int) (inn : List Int) {i j : Int} (i0 : 0 ≤ i) (j0 : 0 ≤ j) (j1 : j < (ix [] c.Gen i).length) :
    addF c.F (c.outTo s inn j i.toNat) (dotF c.F (c.line s inn i) (ix [] (ix [] c.Gen i) j)) = c.outTo s inn j (i + 1).toNat := by
  rw [dotF_line hS s inn j0 j1, outTo_succ c s inn j i0, accF_dot hS (outTo_lt hS s inn j _).1 (outTo_lt hS s inn j _).2]
/-- The error of Next. -/
noncomputable def nxErr (c : Cnv) (s : Int) (l : List Int) : Int := if c.err = 0 then (if s < 0 ∨ c.states ≤ s then 6 else c.inErr l) else c.err
noncomputable def nxSt (c : Cnv) (s : Int) (l : List Int) : Int := if c.nxErr s l = 0 then c.nxt s l c.Gen.length else 0
noncomputable def nxOut (c : Cnv) (s : Int) (l : List Int) : List Int := if c.nxErr s l = 0 then c.outL s l else []
theorem nxErr_zero {c : Cnv} {s : Int} {l : List Int} : c.nxErr s l = 0 ↔ c.Ok ∧ (0 ≤ s ∧ s < c.states) ∧ c.GoodIn l := by
  unfold nxErr
  by_cases h : c.err = 0
  · rw [if_pos h]
    by_cases g : s < 0 ∨ c.states ≤ s
    · rw [if_pos g]; exact ⟨fun h => by omega, fun h => by omega⟩
    · rw [if_neg g, inErr_zero]; exact ⟨fun k => ⟨err_zero.1 h, by omega, k⟩, fun k => k.2.2⟩
  · rw [if_neg h]; exact ⟨fun k => absurd k h, fun k => absurd (err_zero.2 k.1) h⟩
theorem mapR_acc0 (c : Cnv) (s : Int) (inn : List Int) (i : Int) : mapR (c.acc s inn i 0) c.n = mapR (fun j => c.outTo s inn j i.toNat) c.n := rfl
theorem nn_pos (c : Cnv) : 0 ≤ c.n := by unfold n; omega
theorem states_le {c : Cnv} (hq : 2 ≤ c.F.q) (hb : ¬ c.big) : 1 ≤ c.states ∧ c.states ≤ 65536 := by
  have h0 := c.sumD_nonneg c.Gen.length
  have h4 := pow_part (c := c) hq (e := c.sumD c.Gen.length) (by unfold total k; omega)
  have h5 := pow_pos_of c.F.q hq (c.sumD c.Gen.length).toNat
  unfold states
  unfold big at hb
  omega
end Cnv
end Go.Cw
