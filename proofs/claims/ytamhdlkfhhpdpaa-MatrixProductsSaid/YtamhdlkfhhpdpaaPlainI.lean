/-
  Inverses of codes, multiples of rows.
-/
import Derived.Test.YtamhdlkfhhpdpaaPlainQ
import Derived.Test.YtamhdlkfhhpdpaaPlainMsg
set_option linter.unusedVariables false
set_option linter.unusedSimpArgs false
set_option linter.unusedSectionVars false
namespace Go.Cw
noncomputable def invX (f : Fld) (x : Int) : Int := if inF f x = 0 then 0 else ix 0 f.exps ((f.q - 1 - ix 0 f.logs (inF f x)) % (f.q - 1))
theorem invX_spec {f : Fld} (h : FOk f) {x : Int} (hx : inF f x ≠ 0) : mulF f x (invX f x) = 1 ∧ 1 ≤ invX f x ∧ invX f x < f.q := by
  have hS := h.1
  have hb := hS.bd
  have hi := inF_lt hS x
  have hl := h.log (c := inF f x) (by omega) hi.2
  have hm0 : 0 ≤ (f.q - 1 - ix 0 f.logs (inF f x)) % (f.q - 1) := Int.emod_nonneg _ (by omega)
  have hm1 : (f.q - 1 - ix 0 f.logs (inF f x)) % (f.q - 1) < f.q - 1 := Int.emod_lt_of_pos _ (by omega)
  have he := h.exp_ix hm0 hm1
  have hy : invX f x = ix 0 f.exps ((f.q - 1 - ix 0 f.logs (inF f x)) % (f.q - 1)) := by unfold invX; rw [if_neg hx]
  have hly := h.log (c := invX f x) (by rw [hy]; exact he.2.1) (by rw [hy]; exact he.2.2)
  have e1 := h.exp_ix hly.1 hly.2.1
  have e2 : ix 0 f.logs (invX f x) = (f.q - 1 - ix 0 f.logs (inF f x)) % (f.q - 1) := by
    have a := h.ixOf_exp hly.1 hly.2.1
    have b := h.ixOf_exp hm0 hm1
    rw [← hy] at b
    rw [e1.1, hly.2.2] at a
    rw [← a, b]
  refine ⟨?_, by rw [hy]; exact he.2.1, by rw [hy]; exact he.2.2⟩
  unfold mulF
  rw [inF_id (x := invX f x) (by rw [hy]; have := he.2.1; omega) (by rw [hy]; exact he.2.2), ← h.mul_log (by omega) hi.2 (by rw [hy]; exact he.2.1) (by rw [hy]; exact he.2.2), e2]
  have hz : (ix 0 f.logs (inF f x) + (f.q - 1 - ix 0 f.logs (inF f x)) % (f.q - 1)) % (f.q - 1) = 0 := by
    rw [Int.add_emod_emod, show ix 0 f.logs (inF f x) + (f.q - 1 - ix 0 f.logs (inF f x)) = f.q - 1 by omega]
    exact Int.emod_self
  rw [hz]
  have := (h.exp_ix (n := 0) (by omega) (by omega)).1
  rw [this]
  exact Rg.powc_zero f.R _
theorem invX_uniq {f : Fld} (h : FOk f) {x y : Int} (y0 : 1 ≤ y) (y1 : y < f.q) (e : mulF f x y = 1) : y = invX f x := by
  have hS := h.1
  have hb := hS.bd
  have hx : inF f x ≠ 0 := by
    intro hz
    rw [mulF_zero hS (.inl hz)] at e
    omega
  have hs := invX_spec h hx
  refine ke_inj h (by omega) y1 (by omega) hs.2.2 ?_
  have e1 : ke h x * ke h y = 1 := by rw [← ke_mul, e, ke_one]
  have e2 : ke h x * ke h (invX f x) = 1 := by rw [← ke_mul, hs.1, ke_one]
  have : ke h y = ke h y * (ke h x * ke h (invX f x)) := by rw [e2, Fi.mul_one]
  rw [this, ← Fi.mul_assoc, Fi.mul_comm (ke h y), e1, Fi.one_mul]
/-- The inverse, by search. -/
def invF (f : Fld) (x : Int) : Int := (((List.range f.q.toNat).map fun n : Nat => (n : Int)).find? fun y => decide (1 ≤ y ∧ mulF f x y = 1)).getD 0
theorem invF_eq {f : Fld} (h : FOk f) (x : Int) : invF f x = invX f x := by
  have hb := h.1.bd
  unfold invF
  cases hf : ((List.range f.q.toNat).map fun n : Nat => (n : Int)).find? fun y => decide (1 ≤ y ∧ mulF f x y = 1) with
  | none =>
    have hn := List.find?_eq_none.1 hf
    by_cases hx : inF f x = 0
    · unfold invX; rw [if_pos hx]; rfl
    · have hs := invX_spec h hx
      exfalso
      refine hn (invX f x) (List.mem_map.2 ⟨(invX f x).toNat, List.mem_range.2 (by omega), by omega⟩) ?_
      simp only [decide_eq_true_eq]
      exact ⟨hs.2.1, hs.1⟩
  | some y =>
    have h1 := List.find?_some hf
    have h2 := List.mem_of_find?_eq_some hf
    simp only [decide_eq_true_eq] at h1
    obtain ⟨n, hn, rfl⟩ := List.mem_map.1 h2
    have := List.mem_range.1 hn
    exact invX_uniq h (y := (n : Int)) h1.1 (by have : (n : Int) < f.q.toNat := by omega
                                                rw [Int.toNat_of_nonneg (by omega)] at this; exact this) h1.2
theorem invF_zero {f : Fld} (h : FOk f) {x : Int} (hx : inF f x = 0) : invF f x = 0 := by rw [invF_eq h]; unfold invX; rw [if_pos hx]
theorem invF_exp {f : Fld} (h : FOk f) {x : Int} (hx : inF f x ≠ 0) : invF f x = ix 0 f.exps ((f.q - 1 - ix 0 f.logs (inF f x)) % (f.q - 1)) := by rw [invF_eq h]; unfold invX; rw [if_neg hx]
def scaleF (f : Fld) (a : Int) (v : List Int) : List Int := mapR (fun i => mulF f a (ix 0 v i)) v.length
@[simp] theorem length_scaleF (f : Fld) (a : Int) (v : List Int) : (scaleF f a v).length = v.length := by unfold scaleF; rw [length_mapR]; omega
theorem ix_scaleF (f : Fld) (a : Int) (v : List Int) {i : Int} (h0 : 0 ≤ i) (h1 : i < v.length) : ix 0 (scaleF f a v) i = mulF f a (ix 0 v i) := ix_mapR 0 _ h0 h1
theorem scaleF_set (f : Fld) (a : Int) (v : List Int) {i : Int} (h0 : 0 ≤ i) (h1 : i < v.length) : mixL (scaleF f a v) (List.replicate v.length 0) (i + 1) = (mixL (scaleF f a v) (List.replicate v.length 0) i).set i.toNat (mulF f a (ix 0 v i)) :=
  (mixL_set _ _ h0 (by simpa using h1) (by simp) (ix_scaleF f a v h0 h1).symm).symm
/-- The first i of l, the rest of r. -/
def mixG {α : Type} (l r : List α) (i : Int) : List α := l.take i.toNat ++ r.drop i.toNat
theorem mixG_zero {α : Type} (l r : List α) : mixG l r 0 = r := by simp [mixG]
theorem length_mixG {α : Type} (l r : List α) {i : Int} (h : l.length = r.length) (hi : 0 ≤ i) (hi2 : i ≤ l.length) : (mixG l r i).length = l.length := by simp [mixG]; omega
theorem mixG_all {α : Type} (l r : List α) {i : Int} (h : (l.length : Int) ≤ i) (h2 : l.length = r.length) : mixG l r i = l := by
  unfold mixG; rw [List.take_of_length_le (by omega), List.drop_eq_nil_of_le (by omega), List.append_nil]
theorem mixG_set {α : Type} (d : α) (l r : List α) {i : Int} (h0 : 0 ≤ i) (h1 : i < l.length) (h : l.length = r.length) : mixG l r (i + 1) = (mixG l r i).set i.toNat (ix d l i) := by
  have hx := ix_get d l i h0 h1
  apply List.ext_getElem?
  intro j
  unfold mixG
  rw [List.getElem?_set]
  simp only [List.getElem?_append, List.length_take, List.getElem?_take, List.getElem?_drop, List.length_append, List.length_drop]
  by_cases hij : i.toNat = j
  · subst hij
    rw [if_pos rfl, if_pos (by omega), if_pos (by omega), if_pos (by omega), hx]
  · rw [if_neg hij]
    by_cases hj : j < i.toNat
    · rw [if_pos (by omega), if_pos (by omega), if_pos (by omega), if_pos (by omega)]
    · rw [if_neg (by omega), if_neg (by omega)]
      congr 1; omega
end Go.Cw
namespace Go.Cw
def wneg (p : Int) : Nat → Int → Int
  | 0, _ => 0
  | n + 1, x => (p - x % p) % p + p * wneg p n (x / p)
def dneg (p : Int) : Nat → Int → List Int
  | 0, _ => []
  | n + 1, x => (p - x % p) % p :: dneg p n (x / p)
theorem wneg_succ (p : Int) {n : Nat} (h : 1 ≤ n) (x : Int) : wneg p n x = (p - x % p) % p + p * wneg p (n - 1) (x / p) := by
  obtain ⟨k, rfl⟩ : ∃ k, n = k + 1 := ⟨n - 1, by omega⟩
  rfl
theorem wneg_zero (p : Int) : ∀ n, wneg p n 0 = 0
  | 0 => rfl
  | n + 1 => by simp [wneg, wneg_zero p n]
theorem wneg_nonneg (p : Int) (hp : 2 ≤ p) : ∀ n x, 0 ≤ wneg p n x
  | 0, _ => Int.le_refl _
  | n + 1, x => by
    have h1 := wneg_nonneg p hp n (x / p)
    have h2 := Int.emod_nonneg (p - x % p) (show p ≠ 0 by omega)
    have h3 := Int.mul_nonneg (show 0 ≤ p by omega) h1
    simp only [wneg]; omega
theorem valS_dneg (p : Int) : ∀ n x, valS p (dneg p n x) = wneg p n x
  | 0, _ => rfl
  | n + 1, x => by
    simp only [dneg, valS, wneg, valS_dneg p n]
    rw [Int.mul_comm]; omega
theorem length_dneg (p : Int) : ∀ n x, (dneg p n x).length = n
  | 0, _ => rfl
  | n + 1, x => by simp [dneg, length_dneg p n]
theorem getElem?_dneg (p : Int) : ∀ (n : Nat) (x : Int) (j : Nat), j < n → (dneg p n x)[j]? = some ((p - (digS p n x).getD j 0) % p)
  | 0, _, _, h => by omega
  | n + 1, x, 0, _ => by simp [dneg, digS]
  | n + 1, x, j + 1, h => by
    have := getElem?_dneg p n (x / p) j (by omega)
    simpa [dneg, digS] using this
theorem Shape.negc_wneg {f : Fld} (h : Shape f) (x : Int) : f.R.negc x = wneg f.P f.M.toNat x := by
  have hb := h.bd
  have hP := h.pI
  have hN := h.mN
  rw [← valS_dneg]
  show f.R.num (f.R.vneg (f.R.elt x)) = _
  rw [h.num]
  congr 1
  apply List.ext_getElem?
  intro j
  by_cases hj : j < f.R.m
  · rw [getElem?_dneg _ _ _ _ (by omega)]
    have e : (dl f.R.m (f.R.vneg (f.R.elt x)))[j]? = some (((f.R.vneg (f.R.elt x)) j).val : Int) := by simp [dl, hj]
    rw [e]
    have hx := h.dig_ix x (i := (j : Int)) (by omega) (by omega)
    have e1 := h.elt_ix x (i := (j : Int)) (by omega)
    simp only [Int.toNat_natCast] at e1
    simp only [ix, Int.toNat_natCast] at hx e1
    congr 1
    show (((- f.R.elt x j : Fin f.p).val : Nat) : Int) = _
    rw [e1]
    generalize (digS f.P f.M.toNat x).getD j 0 = c at hx
    have hc : ((Fin.ofNat f.p c.toNat : Fin f.p).val : Int) = c := by
      have := fin_val_int (p := f.p) hx.1 (by omega)
      exact this
    have hneg : ∀ a : Fin f.p, ((-a : Fin f.p).val : Int) = ((f.p : Int) - a.val) % f.p := fun a => by
      have : (-a : Fin f.p).val = (f.p - a.val) % f.p := by rw [Fin.neg_def]
      rw [this]
      have ha := a.isLt
      rw [Int.natCast_emod, Int.ofNat_sub (by omega)]
    rw [hneg, hc, hP]
  · rw [List.getElem?_eq_none (by rw [length_dl]; omega), List.getElem?_eq_none (by rw [length_dneg]; omega)]
end Go.Cw

