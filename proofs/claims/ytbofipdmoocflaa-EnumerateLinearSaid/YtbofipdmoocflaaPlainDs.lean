/-
  Plain facts.
-/
import Derived.Test.YtbofipdmoocflaaPlainJ1
set_option linter.unusedVariables false
set_option linter.unusedSimpArgs false
set_option linter.unusedSectionVars false
namespace Go.Cw
def hisOn (L : List Int) (g : Int → Int) (s : Int) : Nat → List Int
  | 0 => L
  | k + 1 => (hisOn L g s k).set (g k).toNat (ix 0 (hisOn L g s k) (g k) + s)
@[simp] theorem length_hisOn (L : List Int) (g : Int → Int) (s : Int) : ∀ k, (hisOn L g s k).length = L.length
  | 0 => rfl
  | k + 1 => by simp [hisOn, length_hisOn L g s k]
theorem ix_set (l : List Int) {i j v : Int} (i0 : 0 ≤ i) (i1 : i < l.length) (j0 : 0 ≤ j) : ix 0 (l.set i.toNat v) j = if i = j then v else ix 0 l j := by
  unfold ix
  rw [List.getD_eq_getElem?_getD, List.getD_eq_getElem?_getD]
  by_cases e : i = j
  · subst e; rw [if_pos rfl, List.getElem?_set_self (by omega)]; rfl
  · rw [if_neg e, List.getElem?_set_ne (by omega)]
theorem ix_hisOn {L : List Int} {g : Int → Int} {s : Int} : ∀ {k : Nat}, (∀ i : Int, 0 ≤ i → i < k → 0 ≤ g i ∧ g i < L.length) → ∀ {j : Int}, 0 ≤ j → ix 0 (hisOn L g s k) j = ix 0 L j + s * cntTo g j k
  | 0, _, j, _ => by show _ = _ + s * 0; rw [Int.mul_zero, Int.add_zero]; rfl
  | k + 1, h, j, h0 => by
    have hk := h k (by omega) (by omega)
    have ih := fun {j : Int} (j0 : 0 ≤ j) => ix_hisOn (L := L) (g := g) (s := s) (k := k) (fun i i0 i1 => h i i0 (by omega)) (j := j) j0
    unfold hisOn cntTo
    rw [ix_set _ hk.1 (by rw [length_hisOn]; exact hk.2) h0, ih hk.1, ih h0]
    by_cases e : g k = j
    · rw [if_pos e, if_pos e, e, Int.mul_add, Int.mul_one]; omega
    · rw [if_neg e, if_neg e, Int.add_zero]
theorem hisOn_step {L : List Int} {g : Int → Int} {s i : Int} (h : 0 ≤ i) : hisOn L g s (i + 1).toNat = (hisOn L g s i.toNat).set (g i).toNat (ix 0 (hisOn L g s i.toNat) (g i) + s) := by
  rw [show (i + 1).toNat = i.toNat + 1 by omega, hisOn, show ((i.toNat : Nat) : Int) = i by omega]
theorem hisOn_bd {L : List Int} {g : Int → Int} {s b : Int} {k : Nat} (h : ∀ i : Int, 0 ≤ i → i < k → 0 ≤ g i ∧ g i < L.length) (hs : 0 ≤ s) (hL : ∀ j : Int, 0 ≤ j → 0 ≤ ix 0 L j ∧ ix 0 L j ≤ b) {j : Int} (h0 : 0 ≤ j) : 0 ≤ ix 0 (hisOn L g s k) j ∧ ix 0 (hisOn L g s k) j ≤ b + s * k := by
  rw [ix_hisOn h h0]
  have h1 := cntTo_bd g j k
  have h2 := Int.mul_nonneg hs h1.1
  have h3 := Int.mul_le_mul_of_nonneg_left h1.2 hs
  have := hL j h0
  omega
/-- Rows of one length. -/
def lens (l : List (List Int)) (n : Int) : Prop := ∀ i : Int, 0 ≤ i → i < l.length → ((ix [] l i).length : Int) = n
def dg (l : List (List Int)) (a : Int) : Int → Int := fun b => dst (ix [] l a) (ix [] l b)
def disR (l : List (List Int)) (n : Int) : Nat → List Int
  | 0 => List.replicate (n + 1).toNat 0
  | k + 1 => hisOn (disR l n k) (dg l k) 1 l.length
def disP (l : List (List Int)) (n : Int) : Nat → List Int
  | 0 => (List.replicate (n + 1).toNat 0).set 0 l.length
  | k + 1 => hisOn (disP l n k) (dg l k) 2 k
@[simp] theorem length_disR (l : List (List Int)) (n : Int) : ∀ k, (disR l n k).length = (n + 1).toNat
  | 0 => by simp [disR]
  | k + 1 => by simp [disR, length_disR l n k]
@[simp] theorem length_disP (l : List (List Int)) (n : Int) : ∀ k, (disP l n k).length = (n + 1).toNat
  | 0 => by simp [disP]
  | k + 1 => by simp [disP, length_disP l n k]
section
variable {l : List (List Int)} {n : Int}
theorem dg_rng (hl : lens l n) (hn : 0 ≤ n) {a b : Int} (a0 : 0 ≤ a) (a1 : a < l.length) : 0 ≤ dg l a b ∧ dg l a b < n + 1 := by
  have h1 := dst_le (ix [] l a) (ix [] l b)
  have h2 := (dst_bd (ix [] l a) (ix [] l b)).1
  have h3 := hl a a0 a1
  exact ⟨h2, by show dst _ _ < _; omega⟩
theorem ix_disR (hl : lens l n) (hn : 0 ≤ n) {j : Int} (j0 : 0 ≤ j) : ∀ {k : Nat}, k ≤ l.length → ix 0 (disR l n k) j = smT (fun a => cntTo (dg l a) j l.length) k
  | 0, _ => ix_zeros _ _
  | k + 1, hk => by
    rw [disR, ix_hisOn (fun i _ _ => by have := dg_rng hl hn (a := k) (b := i) (by omega) (by omega); rw [length_disR]; omega) j0, ix_disR hl hn j0 (by omega), smT, Int.one_mul]
theorem ix_disP (hl : lens l n) (hn : 0 ≤ n) {j : Int} (j0 : 0 ≤ j) : ∀ {k : Nat}, k ≤ l.length → ix 0 (disP l n k) j = (if 0 = j then (l.length : Int) else 0) + 2 * smT (fun a => cntTo (dg l a) j a.toNat) k
  | 0, _ => by
    have := ix_set (List.replicate (n + 1).toNat 0) (i := 0) (j := j) (v := l.length) (by omega) (by simp; omega) j0
    rw [ix_zeros] at this
    show ix 0 ((List.replicate (n + 1).toNat (0 : Int)).set (0 : Int).toNat l.length) j = _ + 2 * 0
    rw [this]; omega
  | k + 1, hk => by
    rw [disP, ix_hisOn (fun i _ _ => by have := dg_rng hl hn (a := k) (b := i) (by omega) (by omega); rw [length_disP]; omega) j0, ix_disP hl hn j0 (by omega), smT, show ((k : Int)).toNat = k by omega]
    omega
theorem dst_self (a : List Int) : dst a a = 0 := dstTo_zero.2 fun _ _ _ => rfl
/-- Pairs in either order. -/
theorem pairs (l : List (List Int)) (j : Int) : ∀ k : Nat, smT (fun a => cntTo (dg l a) j k) k = (if 0 = j then (k : Int) else 0) + 2 * smT (fun a => cntTo (dg l a) j a.toNat) k
  | 0 => by
    show (0 : Int) = (if 0 = j then ((0 : Nat) : Int) else 0) + 2 * 0
    split <;> rfl
  | k + 1 => by
    have ih := pairs l j k
    have e1 : smT (fun a => cntTo (dg l a) j (k + 1)) k = smT (fun a => cntTo (dg l a) j k) k + cntTo (dg l k) j k := by
      have : smT (fun a => cntTo (dg l a) j (k + 1)) k = smT (fun a => cntTo (dg l a) j k + (if dg l a k = j then 1 else 0)) k := rfl
      rw [this, smT_add, cnt_smT (dg l k)]
      congr 1
      exact smT_congr fun a _ _ => by unfold dg; rw [dst_symm]
    have e2 : cntTo (dg l k) j (k + 1) = cntTo (dg l k) j k + (if 0 = j then 1 else 0) := by
      show cntTo (dg l k) j k + (if dg l k k = j then 1 else 0) = _
      rw [show dg l k k = 0 from dst_self _]
    rw [smT, smT, e1, e2, ih, show ((k : Int)).toNat = k by omega]
    split <;> omega
theorem dis_eq (hl : lens l n) (hn : 0 ≤ n) : disP l n l.length = disR l n l.length := by
  refine ext_ix 0 (by simp) fun i i0 _ => ?_
  rw [ix_disP hl hn i0 (Nat.le_refl _), ix_disR hl hn i0 (Nat.le_refl _), pairs]
theorem disP_bd (hl : lens l n) (hn : 0 ≤ n) {j : Int} (j0 : 0 ≤ j) : ∀ {k : Nat}, k ≤ l.length → 0 ≤ ix 0 (disP l n k) j ∧ ix 0 (disP l n k) j ≤ l.length + 2 * (k * l.length)
  | 0, _ => by
    have := ix_set (List.replicate (n + 1).toNat 0) (i := 0) (j := j) (v := l.length) (by omega) (by simp; omega) j0
    rw [ix_zeros] at this
    have e : ix 0 (disP l n 0) j = if 0 = j then (l.length : Int) else 0 := this
    rw [e]
    split <;> simp
  | k + 1, hk => by
    have ih := fun {j : Int} (j0 : 0 ≤ j) => disP_bd hl hn j0 (k := k) (by omega)
    have := hisOn_bd (L := disP l n k) (g := dg l k) (s := 2) (b := l.length + 2 * (k * l.length)) (k := k) (fun i _ _ => by have := dg_rng hl hn (a := k) (b := i) (by omega) (by omega); rw [length_disP]; omega) (by decide) (fun j j0 => ih j0) j0
    rw [show ((k + 1 : Nat) : Int) = (k : Int) + 1 by omega, Int.add_mul, disP]
    omega
end
noncomputable def rowE (f : Fld) (n : Int) : List (List Int) → Int
  | [] => 0
  | x :: xs => if lisE f x n = 0 then rowE f n xs else lisE f x n
theorem rowE_at {f : Fld} {n : Int} : ∀ {l : List (List Int)} {i : Int}, 0 ≤ i → i < l.length → (∀ z : Int, 0 ≤ z → z < i → lisE f (ix [] l z) n = 0) → lisE f (ix [] l i) n ≠ 0 → rowE f n l = lisE f (ix [] l i) n
  | [], i, h0, h1, _, _ => by simp at h1; omega
  | x :: xs, i, h0, h1, h, hn => by
    unfold rowE
    by_cases e : i = 0
    · subst e
      rw [show ix [] (x :: xs) 0 = x from rfl] at hn ⊢
      rw [if_neg hn]
    · have hz : ∀ z : Int, 0 ≤ z → ix [] (x :: xs) (z + 1) = ix [] xs z := fun z hz => by
        unfold ix; rw [show (z + 1).toNat = z.toNat + 1 by omega]; rfl
      have h2 := h 0 (Int.le_refl 0) (by omega)
      rw [show ix [] (x :: xs) 0 = x from rfl] at h2
      rw [if_pos h2]
      have e2 : ix [] (x :: xs) i = ix [] xs (i - 1) := by have := hz (i - 1) (by omega); rwa [show i - 1 + 1 = i by omega] at this
      rw [e2] at hn ⊢
      refine rowE_at (by omega) (by simp at h1; omega) (fun z z0 z1 => ?_) hn
      rw [← hz z z0]
      exact h (z + 1) (by omega) (by omega)
theorem rowE_all {f : Fld} {n : Int} : ∀ {l : List (List Int)}, (∀ z : Int, 0 ≤ z → z < l.length → lisE f (ix [] l z) n = 0) → rowE f n l = 0
  | [], _ => rfl
  | x :: xs, h => by
    have h2 := h 0 (Int.le_refl 0) (by simp)
    rw [show ix [] (x :: xs) 0 = x from rfl] at h2
    unfold rowE
    rw [if_pos h2]
    refine rowE_all fun z z0 z1 => ?_
    have := h (z + 1) (by omega) (by simp; omega)
    rw [show ix [] (x :: xs) (z + 1) = ix [] xs z by unfold ix; rw [show (z + 1).toNat = z.toNat + 1 by omega]; rfl] at this
    exact this
noncomputable def diE (f : Fld) (n : Int) (l : List (List Int)) : Int := if FOk f then (if n < 1 ∨ 64 < n then 4 else if 256 < (l.length : Int) then 8 else rowE f n l) else 1
noncomputable def diL (f : Fld) (n : Int) (l : List (List Int)) : List Int := if diE f n l = 0 then disR l n l.length else []
theorem lis_lens {f : Fld} {n : Int} {l : List (List Int)} (h : ∀ z : Int, 0 ≤ z → z < l.length → lisE f (ix [] l z) n = 0) : lens l n := fun i i0 i1 => (lisE_zero.1 (h i i0 i1)).1
theorem diL_no {f : Fld} {n : Int} {l : List (List Int)} (h : diE f n l ≠ 0) : diL f n l = [] := if_neg h
theorem diL_ok {f : Fld} {n : Int} {l : List (List Int)} (h : diE f n l = 0) : diL f n l = disR l n l.length := if_pos h
theorem take_ix {l : List (List Int)} {a b : Int} (b0 : 0 ≤ b) (b1 : b < a) : ix [] (l.take a.toNat) b = ix [] l b := by
  unfold ix
  rw [List.getD_eq_getElem?_getD, List.getD_eq_getElem?_getD, List.getElem?_take, if_pos (by omega)]
/-- The law on the words of a code. -/
theorem linear_facts {c : Cod} (hs : sizE c = 0) (hn : sizV c ≤ 256) : diE c.F c.N (wds c.F c.N c.Gen) = 0 ∧ ∀ j : Int, 0 ≤ j → j < c.N + 1 → ix 0 (diL c.F c.N (wds c.F c.N c.Gen)) j = (wds c.F c.N c.Gen).length * ix 0 (wtsL c) j := by
  obtain ⟨hk, hq⟩ := sizE_zero.1 hs
  have hsv := sizV_ok hs
  have hcn := hk.cn
  have hn1 := hk.n1
  have hn2 := hk.n64
  have hl := wds_len c
  have h0 : ∀ z : Int, 0 ≤ z → z < (wds c.F c.N c.Gen).length → lisE c.F (ix [] (wds c.F c.N c.Gen) z) c.N = 0 := fun z z0 z1 => by
    rw [wds_ix c z0 (by omega)]
    exact lisE_zero.2 ⟨hk.wdl z, hk.wd_out z⟩
  have e : diE c.F c.N (wds c.F c.N c.Gen) = 0 := by
    unfold diE
    rw [if_pos hk.fld, if_neg (by omega), if_neg (by omega)]
    exact rowE_all h0
  refine ⟨e, fun j j0 j1 => ?_⟩
  rw [diL_ok e, ix_disR (lis_lens h0) (by omega) j0 (Nat.le_refl _), wtsL_ok hs, ix_hisTo (fun i _ _ => hk.wt_le i) j0 j1]
  have : smT (fun a => cntTo (dg (wds c.F c.N c.Gen) a) j (wds c.F c.N c.Gen).length) (wds c.F c.N c.Gen).length = smT (fun _ => cntTo (fun i => wt (c.w i)) j c.n) (wds c.F c.N c.Gen).length := smT_congr fun a a0 a1 => by
    rw [hl] at a1 ⊢
    rw [← hk.cnt_word a j]
    refine cnt_congr fun i i0 i1 => ?_
    unfold dg
    rw [wds_ix c a0 a1, wds_ix c i0 i1, dst_symm]
  rw [this, smT_const]
end Go.Cw

