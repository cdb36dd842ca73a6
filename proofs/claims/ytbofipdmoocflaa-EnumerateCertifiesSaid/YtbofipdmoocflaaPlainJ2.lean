/-
  Plain facts.
-/
import Derived.Test.YtbofipdmoocflaaPlainJ1
set_option linter.unusedVariables false
set_option linter.unusedSimpArgs false
set_option linter.unusedSectionVars false
namespace Go.Cw
def smT (h : Int → Int) : Nat → Int
  | 0 => 0
  | k + 1 => smT h k + h k
theorem smT_congr {h h' : Int → Int} : ∀ {k : Nat}, (∀ i : Int, 0 ≤ i → i < k → h i = h' i) → smT h k = smT h' k
  | 0, _ => rfl
  | k + 1, e => by rw [smT, smT, smT_congr fun i h0 h1 => e i h0 (by omega), e k (by omega) (by omega)]
theorem smT_add (g h : Int → Int) : ∀ k : Nat, smT (fun i => g i + h i) k = smT g k + smT h k
  | 0 => rfl
  | k + 1 => by rw [smT, smT, smT, smT_add g h k]; omega
theorem smT_zero {h : Int → Int} {k : Nat} (e : ∀ i : Int, 0 ≤ i → i < k → h i = 0) : smT h k = 0 := by
  induction k with
  | zero => rfl
  | succ k ih => rw [smT, ih fun i h0 h1 => e i h0 (by omega), e k (by omega) (by omega)]; rfl
theorem smT_single (a v : Int) : ∀ (k : Nat), 0 ≤ v → smT (fun i => if v = i then a else 0) k = if v < k then a else 0
  | 0, h => by rw [if_neg (by omega)]; rfl
  | k + 1, h => by
    rw [smT, smT_single a v k h]
    by_cases e : v = k
    · rw [if_neg (by omega), if_pos e, if_pos (by omega)]; omega
    · rw [if_neg e]
      by_cases h2 : v < k
      · rw [if_pos h2, if_pos (by omega)]; omega
      · rw [if_neg h2, if_neg (by omega)]; rfl
theorem smT_le_one {h : Int → Int} : ∀ {n : Nat}, (∀ i : Int, 0 ≤ i → i < n → h i ≤ 1) → smT h n ≤ n
  | 0, _ => Int.le_refl _
  | n + 1, e => by
    have : smT h n ≤ n := smT_le_one (n := n) fun i h0 h1 => e i h0 (by omega)
    have h2 := e n (by omega) (by omega)
    rw [smT]; omega
theorem smT_all_one {h : Int → Int} : ∀ {n : Nat}, (∀ i : Int, 0 ≤ i → i < n → h i ≤ 1) → smT h n = n → ∀ i : Int, 0 ≤ i → i < n → h i = 1
  | 0, _, _, i, h0, h1 => by omega
  | n + 1, e, hs, i, h0, h1 => by
    have h2 := e n (by omega) (by omega)
    have h3 : smT h n ≤ n := smT_le_one (n := n) fun i h0 h1 => e i h0 (by omega)
    rw [smT] at hs
    by_cases hi : i = n
    · rw [hi]; omega
    · exact smT_all_one (n := n) (fun i h0 h1 => e i h0 (by omega)) (by omega) i h0 (by omega)
theorem cnt_smT (g : Int → Int) (j : Int) : ∀ k : Nat, cntTo g j k = smT (fun i => if g i = j then 1 else 0) k
  | 0 => rfl
  | k + 1 => by rw [cntTo, smT, cnt_smT g j k]
/-- An order of the first n. -/
structure PermN (p : Int → Int) (n : Nat) : Prop where
  rng : ∀ i : Int, 0 ≤ i → i < n → 0 ≤ p i ∧ p i < n
  inj : ∀ i j : Int, 0 ≤ i → i < n → 0 ≤ j → j < n → p i = p j → i = j
namespace PermN
variable {p : Int → Int} {n : Nat}
theorem le_one (h : PermN p n) (v : Int) : ∀ k : Nat, k ≤ n → cntTo p v k ≤ 1 ∧ (cntTo p v k = 1 → ∃ i : Int, 0 ≤ i ∧ i < k ∧ p i = v)
  | 0, _ => ⟨show (0 : Int) ≤ 1 by decide, fun h => absurd (show (0 : Int) = 1 from h) (by decide)⟩
  | k + 1, hk => by
    obtain ⟨h1, h2⟩ := h.le_one v k (by omega)
    have hb := cntTo_bd p v k
    unfold cntTo
    by_cases e : p k = v
    · rw [if_pos e]
      have h0 : cntTo p v k = 0 := by
        by_cases h3 : cntTo p v k = 1
        · obtain ⟨i, i0, i1, i2⟩ := h2 h3
          have := h.inj i k i0 (by omega) (by omega) (by omega) (by rw [i2, e])
          omega
        · omega
      rw [h0]
      exact ⟨by decide, fun _ => ⟨k, by omega, by omega, e⟩⟩
    · rw [if_neg e, Int.add_zero]
      exact ⟨h1, fun h3 => by obtain ⟨i, i0, i1, i2⟩ := h2 h3; exact ⟨i, i0, by omega, i2⟩⟩
theorem total (h : PermN p n) : ∀ k : Nat, k ≤ n → smT (fun v => cntTo p v k) n = k
  | 0, _ => smT_zero fun _ _ _ => rfl
  | k + 1, hk => by
    have hr := h.rng k (by omega) (by omega)
    show smT (fun v => cntTo p v k + (if p k = v then 1 else 0)) n = _
    rw [smT_add, h.total k (by omega), smT_single 1 (p k) n hr.1, if_pos hr.2]; omega
theorem one (h : PermN p n) : ∀ v : Int, 0 ≤ v → v < n → cntTo p v n = 1 :=
  smT_all_one (fun i _ _ => (h.le_one i n (Nat.le_refl _)).1) (h.total n (Nat.le_refl _))
theorem sum_to (h : PermN p n) (g : Int → Int) : ∀ k : Nat, k ≤ n → smT (fun i => g (p i)) k = smT (fun v => g v * cntTo p v k) n
  | 0, _ => (smT_zero fun _ _ _ => Int.mul_zero _).symm
  | k + 1, hk => by
    have hr := h.rng k (by omega) (by omega)
    have e : smT (fun v => g v * cntTo p v (k + 1)) n = smT (fun v => g v * cntTo p v k + (if p k = v then g (p k) else 0)) n := smT_congr fun v _ _ => by
      show g v * (cntTo p v k + (if p k = v then 1 else 0)) = _
      by_cases e : p k = v
      · rw [if_pos e, if_pos e, Int.mul_add, Int.mul_one, e]
      · rw [if_neg e, if_neg e, Int.add_zero, Int.add_zero]
    rw [e, smT_add, ← h.sum_to g k (by omega), smT_single (g (p k)) (p k) n hr.1, if_pos hr.2]; rfl
theorem sum (h : PermN p n) (g : Int → Int) : smT (fun i => g (p i)) n = smT g n := by
  rw [h.sum_to g n (Nat.le_refl _)]
  exact smT_congr fun v h0 h1 => by rw [h.one v h0 h1, Int.mul_one]
theorem cnt (h : PermN p n) (g : Int → Int) (j : Int) : cntTo (fun i => g (p i)) j n = cntTo g j n := by
  rw [cnt_smT, cnt_smT]
  exact h.sum fun v => if g v = j then 1 else 0
end PermN
def vadd (f : Fld) (a b : List Int) : List Int := mapR (fun i => addF f (ix 0 a i) (ix 0 b i)) a.length
def vneg (f : Fld) (a : List Int) : List Int := mapR (fun i => negF f (ix 0 a i)) a.length
@[simp] theorem length_vadd (f : Fld) (a b : List Int) : (vadd f a b).length = a.length := by unfold vadd; rw [length_mapR]; omega
@[simp] theorem length_vneg (f : Fld) (a : List Int) : (vneg f a).length = a.length := by unfold vneg; rw [length_mapR]; omega
section
variable {f : Fld} (h : FOk f)
end
namespace COk
variable {c : Cod}
end COk
namespace COk
variable {c : Cod}
end COk
end Go.Cw


set_option linter.unusedVariables false
set_option linter.unusedSimpArgs false
set_option linter.unusedSectionVars false
namespace Go.Cw
def hisOn (L : List Int) (g : Int → Int) (s : Int) : Nat → List Int
  | 0 => L
  | k + 1 => (hisOn L g s k).set (g k).toNat (ix 0 (hisOn L g s k) (g k) + s)
@[simp] theorem length_hisOn (L : List Int) (g : Int → Int) (s : Int) : ∀ k, (hisOn L g s k).length = L.length
  | 0 => rfl
  | k + 1 => by simp [hisOn, length_hisOn L g s k]
/-- Rows of one length. -/
def lens (l : List (List Int)) (n : Int) : Prop := ∀ i : Int, 0 ≤ i → i < l.length → ((ix [] l i).length : Int) = n
def dg (l : List (List Int)) (a : Int) : Int → Int := fun b => dst (ix [] l a) (ix [] l b)
def disR (l : List (List Int)) (n : Int) : Nat → List Int
  | 0 => List.replicate (n + 1).toNat 0
  | k + 1 => hisOn (disR l n k) (dg l k) 1 l.length
def disP (l : List (List Int)) (n : Int) : Nat → List Int
  | 0 => (List.replicate (n + 1).toNat 0).set 0 l.length
  | k + 1 => hisOn (disP l n k) (dg l k) 2 k
@[simp] theorem length_disR (l : List (List Int)) (n : Int) : ∀ k, (disR l n k).length = (n + 1).toNat
  | 0 => by simp [disR]
  | k + 1 => by simp [disR, length_disR l n k]
@[simp] theorem length_disP (l : List (List Int)) (n : Int) : ∀ k, (disP l n k).length = (n + 1).toNat
  | 0 => by simp [disP]
  | k + 1 => by simp [disP, length_disP l n k]
section
variable {l : List (List Int)} {n : Int}
theorem dst_self (a : List Int) : dst a a = 0 := dstTo_zero.2 fun _ _ _ => rfl
/-- Pairs in either order. -/
theorem pairs (l : List (List Int)) (j : Int) : ∀ k : Nat, smT (fun a => cntTo (dg l a) j k) k = (if 0 = j then (k : Int) else 0) + 2 * smT (fun a => cntTo (dg l a) j a.toNat) k
  | 0 => by
    show (0 : Int) = (if 0 = j then ((0 : Nat) : Int) else 0) + 2 * 0
    split <;> rfl
  | k + 1 => by
    have ih := pairs l j k
    have e1 : smT (fun a => cntTo (dg l a) j (k + 1)) k = smT (fun a => cntTo (dg l a) j k) k + cntTo (dg l k) j k := by
      have : smT (fun a => cntTo (dg l a) j (k + 1)) k = smT (fun a => cntTo (dg l a) j k + (if dg l a k = j then 1 else 0)) k := rfl
      rw [this, smT_add, cnt_smT (dg l k)]
      congr 1
      exact smT_congr fun a _ _ => by unfold dg; rw [dst_symm]
    have e2 : cntTo (dg l k) j (k + 1) = cntTo (dg l k) j k + (if 0 = j then 1 else 0) := by
      show cntTo (dg l k) j k + (if dg l k k = j then 1 else 0) = _
      rw [show dg l k k = 0 from dst_self _]
    rw [smT, smT, e1, e2, ih, show ((k : Int)).toNat = k by omega]
    split <;> omega
end
end Go.Cw


set_option linter.unusedVariables false
set_option linter.unusedSimpArgs false
set_option linter.unusedSectionVars false
namespace Go.Cw
/-- A canonical matrix is its own canonical matrix. -/
theorem canR_idem {f : Fld} {n : Nat} {X : List (List Int)} (h : FOk f) (hX : good f n X) : canR (elim f (canR (elim f X [] n)) [] n) = canR (elim f X [] n) := by
  have hg := canR_good h.1 hX n
  have hl := length_canR f X n
  have s1 := elim_span h hX n
  refine (can_uniq h hg hX (fun i hi => ?_) (fun i hi => ?_)).2
  · rw [km_canR h (by omega)]
    exact s1.1 i (by have := piv_le f X [] n; omega)
  · have hm : ix [] X i ∈ X := ix_mem [] X (i := (i : Int)) (by omega) (by omega)
    have e := can_row h hX hm
    have hk : km h X i = kv h (ix [] X i) := by rw [ix_nat]; rfl
    rw [hk, ← e, kv_comb h (fun l hl' => by have := (hg l hl').1; omega) (by simp; omega)]
    exact ⟨_, rfl⟩
def dua (c : Cod) : Cod := ⟨c.F, c.N, nullR c.F c.Gen c.N⟩
def sidC (c : Cod) (d : Bool) : Cod := if d then dua c else c
theorem sidC_yes {c : Cod} {d : Bool} (h : d = true) : sidC c d = dua c := if_pos h
theorem sidC_no {c : Cod} {d : Bool} (h : d = false) : sidC c d = c := if_neg (by simp [h])
namespace COk
variable {c : Cod}
theorem rows_can (hk : COk c) : canR (elim c.F c.Gen [] c.N.toNat) = c.Gen := by
  have := hk.can
  rw [canM_ok hk.mat] at this
  exact this
theorem good (hk : COk c) : good c.F c.N.toNat c.Gen := mat_good hk.gmat
theorem dim_dua (hk : COk c) : ((dua c).Gen.length : Int) + c.Gen.length = c.N := by
  have hd := null_dim hk.fld hk.good
  have hl := length_canR c.F c.Gen c.N.toNat
  have hn := hk.n1
  rw [hk.rows_can] at hl
  show ((nullR c.F c.Gen c.N).length : Int) + _ = _
  rw [show ((c.N.toNat : Nat) : Int) = c.N by omega] at hd
  omega
theorem good_dua (hk : COk c) : Go.Cw.good c.F c.N.toNat (dua c).Gen := canR_good hk.fld.1 (ker_good hk.fld.1 _ _ _ _) _
theorem mat_dua (hk : COk c) : mErr c.F ⟨c.N, (dua c).Gen⟩ = 0 := by
  have hn := hk.n1; have h64 := hk.n64; have hd := hk.dim_dua
  exact mErr_zero.2 ⟨hk.fld, good_mat (by show 0 ≤ c.N; omega) (by show c.N ≤ 256; omega) (by show (dua c).Gen.length ≤ 256; omega) hk.good_dua⟩
theorem dua (hk : COk c) : COk (dua c) where
  fld := hk.fld
  n1 := hk.n1
  n64 := hk.n64
  mat := hk.mat_dua
  can := by
    show (canM c.F ⟨c.N, (Go.Cw.dua c).Gen⟩).rows = (Go.Cw.dua c).Gen
    rw [canM_ok hk.mat_dua]
    exact canR_idem hk.fld (ker_good hk.fld.1 _ _ _ _)
theorem side (hk : COk c) (d : Bool) : COk (sidC c d) := by
  unfold sidC
  split
  · exact hk.dua
  · exact hk
end COk
theorem kerM_code {c : Cod} (hk : COk c) : kerM c.F c.m = ⟨c.N, (dua c).Gen⟩ := kerM_ok hk.mat
theorem side_len {c : Cod} (hk : COk c) (d : Bool) : ((sidC c d).Gen.length : Int) = if d = true then c.N - c.Gen.length else c.Gen.length := by
  have := hk.dim_dua
  unfold sidC
  split
  · omega
  · rfl
theorem side_F (c : Cod) (d : Bool) : (sidC c d).F = c.F := by unfold sidC; split <;> rfl
/-- The side that a program returns: no code, where it is too large. -/
noncomputable def sidV (c : Cod) (d : Bool) : Cod := if sizE (sidC c d) = 0 then sidC c d else Cod.no
theorem sidV_ok {c : Cod} {d : Bool} (h : sizE (sidC c d) = 0) : sidV c d = sidC c d := if_pos h
theorem sidV_no {c : Cod} {d : Bool} (h : sizE (sidC c d) ≠ 0) : sidV c d = Cod.no := if_neg h
theorem side_size {c : Cod} (hk : COk c) (d : Bool) {k : Int} (h : k = if d = true then c.N - c.Gen.length else (c.Gen.length : Int)) : sizE (sidC c d) = expE c.F.q k 65536 := by
  rw [sizE_exp (codE_zero.2 (hk.side d)), side_F, h, ← side_len hk d]
theorem expE_err {q k m : Int} (h : expE q k m ≠ 0) : expE q k m = 8 := by
  unfold expE at h ⊢
  split
  · rename_i h1; rw [if_pos h1] at h; exact absurd rfl h
  · rfl
structure Tly where
  dual : Bool
  count : List Int
noncomputable def chkT (c : Cod) (t : Tly) : Int := if codE c ≠ 0 then codE c else if sizE (sidC c t.dual) ≠ 0 then sizE (sidC c t.dual) else if wtsL (sidC c t.dual) = t.count then 0 else 13
theorem chkT_code {c : Cod} {t : Tly} (h : codE c ≠ 0) : chkT c t = codE c := if_pos h
theorem chkT_side {c : Cod} {t : Tly} (h : codE c = 0) (h2 : sizE (sidC c t.dual) ≠ 0) : chkT c t = sizE (sidC c t.dual) := by unfold chkT; rw [if_neg (by simp [h]), if_pos h2]
theorem chkT_no {c : Cod} {t : Tly} (h : codE c = 0) (h2 : sizE (sidC c t.dual) = 0) (h3 : ¬ wtsL (sidC c t.dual) = t.count) : chkT c t = 13 := by unfold chkT; rw [if_neg (by simp [h]), if_neg (by simp [h2]), if_neg h3]
theorem chkT_yes {c : Cod} {t : Tly} (h : codE c = 0) (h2 : sizE (sidC c t.dual) = 0) (h3 : wtsL (sidC c t.dual) = t.count) : chkT c t = 0 := by unfold chkT; rw [if_neg (by simp [h]), if_neg (by simp [h2]), if_pos h3]
def cerD (c : Cod) : Bool := decide (c.N - c.Gen.length < c.Gen.length)
noncomputable def cerE (c : Cod) : Int := if codE c ≠ 0 then codE c else sizE (sidC c (cerD c))
noncomputable def cerT (c : Cod) : Tly := if cerE c = 0 then ⟨cerD c, wtsL (sidC c (cerD c))⟩ else ⟨false, []⟩
theorem cerE_code {c : Cod} (h : codE c ≠ 0) : cerE c = codE c := if_pos h
theorem cerE_side {c : Cod} (h : codE c = 0) : cerE c = sizE (sidC c (cerD c)) := if_neg (by simp [h])
theorem cerT_ok {c : Cod} (h : cerE c = 0) : cerT c = ⟨cerD c, wtsL (sidC c (cerD c))⟩ := if_pos h
theorem cerT_no {c : Cod} (h : cerE c ≠ 0) : cerT c = ⟨false, []⟩ := if_neg h
theorem cer_chk {c : Cod} (h : cerE c = 0) : chkT c (cerT c) = 0 := by
  have h0 : codE c = 0 := Classical.byContradiction fun hn => by rw [cerE_code hn] at h; exact hn h
  rw [cerE_side h0] at h
  have e := cerT_ok (c := c) (by rw [cerE_side h0]; exact h)
  rw [e]
  exact chkT_yes h0 h rfl
end Go.Cw

