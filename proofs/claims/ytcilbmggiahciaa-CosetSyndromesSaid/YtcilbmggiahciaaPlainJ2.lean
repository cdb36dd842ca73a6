/-
  Plain facts.
-/
import Derived.Test.YtcilbmggiahciaaPlainJ1
set_option linter.unusedVariables false
set_option linter.unusedSimpArgs false
set_option linter.unusedSectionVars false
namespace Go.Cw
def smT (h : Int → Int) : Nat → Int
  | 0 => 0
  | k + 1 => smT h k + h k
theorem smT_congr {h h' : Int → Int} : ∀ {k : Nat}, (∀ i : Int, 0 ≤ i → i < k → h i = h' i) → smT h k = smT h' k
  | 0, _ => rfl
  | k + 1, e => by rw [smT, smT, smT_congr fun i h0 h1 => e i h0 (by omega), e k (by omega) (by omega)]
theorem smT_add (g h : Int → Int) : ∀ k : Nat, smT (fun i => g i + h i) k = smT g k + smT h k
  | 0 => rfl
  | k + 1 => by rw [smT, smT, smT, smT_add g h k]; omega
theorem smT_zero {h : Int → Int} {k : Nat} (e : ∀ i : Int, 0 ≤ i → i < k → h i = 0) : smT h k = 0 := by
  induction k with
  | zero => rfl
  | succ k ih => rw [smT, ih fun i h0 h1 => e i h0 (by omega), e k (by omega) (by omega)]; rfl
theorem smT_single (a v : Int) : ∀ (k : Nat), 0 ≤ v → smT (fun i => if v = i then a else 0) k = if v < k then a else 0
  | 0, h => by rw [if_neg (by omega)]; rfl
  | k + 1, h => by
    rw [smT, smT_single a v k h]
    by_cases e : v = k
    · rw [if_neg (by omega), if_pos e, if_pos (by omega)]; omega
    · rw [if_neg e]
      by_cases h2 : v < k
      · rw [if_pos h2, if_pos (by omega)]; omega
      · rw [if_neg h2, if_neg (by omega)]; rfl
theorem smT_le_one {h : Int → Int} : ∀ {n : Nat}, (∀ i : Int, 0 ≤ i → i < n → h i ≤ 1) → smT h n ≤ n
  | 0, _ => Int.le_refl _
  | n + 1, e => by
    have : smT h n ≤ n := smT_le_one (n := n) fun i h0 h1 => e i h0 (by omega)
    have h2 := e n (by omega) (by omega)
    rw [smT]; omega
theorem smT_all_one {h : Int → Int} : ∀ {n : Nat}, (∀ i : Int, 0 ≤ i → i < n → h i ≤ 1) → smT h n = n → ∀ i : Int, 0 ≤ i → i < n → h i = 1
  | 0, _, _, i, h0, h1 => by omega
  | n + 1, e, hs, i, h0, h1 => by
    have h2 := e n (by omega) (by omega)
    have h3 : smT h n ≤ n := smT_le_one (n := n) fun i h0 h1 => e i h0 (by omega)
    rw [smT] at hs
    by_cases hi : i = n
    · rw [hi]; omega
    · exact smT_all_one (n := n) (fun i h0 h1 => e i h0 (by omega)) (by omega) i h0 (by omega)
theorem cnt_smT (g : Int → Int) (j : Int) : ∀ k : Nat, cntTo g j k = smT (fun i => if g i = j then 1 else 0) k
  | 0 => rfl
  | k + 1 => by rw [cntTo, smT, cnt_smT g j k]
/-- An order of the first n. -/
structure PermN (p : Int → Int) (n : Nat) : Prop where
  rng : ∀ i : Int, 0 ≤ i → i < n → 0 ≤ p i ∧ p i < n
  inj : ∀ i j : Int, 0 ≤ i → i < n → 0 ≤ j → j < n → p i = p j → i = j
namespace PermN
variable {p : Int → Int} {n : Nat}
theorem le_one (h : PermN p n) (v : Int) : ∀ k : Nat, k ≤ n → cntTo p v k ≤ 1 ∧ (cntTo p v k = 1 → ∃ i : Int, 0 ≤ i ∧ i < k ∧ p i = v)
  | 0, _ => ⟨show (0 : Int) ≤ 1 by decide, fun h => absurd (show (0 : Int) = 1 from h) (by decide)⟩
  | k + 1, hk => by
    obtain ⟨h1, h2⟩ := h.le_one v k (by omega)
    have hb := cntTo_bd p v k
    unfold cntTo
    by_cases e : p k = v
    · rw [if_pos e]
      have h0 : cntTo p v k = 0 := by
        by_cases h3 : cntTo p v k = 1
        · obtain ⟨i, i0, i1, i2⟩ := h2 h3
          have := h.inj i k i0 (by omega) (by omega) (by omega) (by rw [i2, e])
          omega
        · omega
      rw [h0]
      exact ⟨by decide, fun _ => ⟨k, by omega, by omega, e⟩⟩
    · rw [if_neg e, Int.add_zero]
      exact ⟨h1, fun h3 => by obtain ⟨i, i0, i1, i2⟩ := h2 h3; exact ⟨i, i0, by omega, i2⟩⟩
theorem total (h : PermN p n) : ∀ k : Nat, k ≤ n → smT (fun v => cntTo p v k) n = k
  | 0, _ => smT_zero fun _ _ _ => rfl
  | k + 1, hk => by
    have hr := h.rng k (by omega) (by omega)
    show smT (fun v => cntTo p v k + (if p k = v then 1 else 0)) n = _
    rw [smT_add, h.total k (by omega), smT_single 1 (p k) n hr.1, if_pos hr.2]; omega
theorem one (h : PermN p n) : ∀ v : Int, 0 ≤ v → v < n → cntTo p v n = 1 :=
  smT_all_one (fun i _ _ => (h.le_one i n (Nat.le_refl _)).1) (h.total n (Nat.le_refl _))
theorem sum_to (h : PermN p n) (g : Int → Int) : ∀ k : Nat, k ≤ n → smT (fun i => g (p i)) k = smT (fun v => g v * cntTo p v k) n
  | 0, _ => (smT_zero fun _ _ _ => Int.mul_zero _).symm
  | k + 1, hk => by
    have hr := h.rng k (by omega) (by omega)
    have e : smT (fun v => g v * cntTo p v (k + 1)) n = smT (fun v => g v * cntTo p v k + (if p k = v then g (p k) else 0)) n := smT_congr fun v _ _ => by
      show g v * (cntTo p v k + (if p k = v then 1 else 0)) = _
      by_cases e : p k = v
      · rw [if_pos e, if_pos e, Int.mul_add, Int.mul_one, e]
      · rw [if_neg e, if_neg e, Int.add_zero, Int.add_zero]
    rw [e, smT_add, ← h.sum_to g k (by omega), smT_single (g (p k)) (p k) n hr.1, if_pos hr.2]; rfl
theorem sum (h : PermN p n) (g : Int → Int) : smT (fun i => g (p i)) n = smT g n := by
  rw [h.sum_to g n (Nat.le_refl _)]
  exact smT_congr fun v h0 h1 => by rw [h.one v h0 h1, Int.mul_one]
theorem cnt (h : PermN p n) (g : Int → Int) (j : Int) : cntTo (fun i => g (p i)) j n = cntTo g j n := by
  rw [cnt_smT, cnt_smT]
  exact h.sum fun v => if g v = j then 1 else 0
end PermN
def vadd (f : Fld) (a b : List Int) : List Int := mapR (fun i => addF f (ix 0 a i) (ix 0 b i)) a.length
def vneg (f : Fld) (a : List Int) : List Int := mapR (fun i => negF f (ix 0 a i)) a.length
@[simp] theorem length_vadd (f : Fld) (a b : List Int) : (vadd f a b).length = a.length := by unfold vadd; rw [length_mapR]; omega
@[simp] theorem length_vneg (f : Fld) (a : List Int) : (vneg f a).length = a.length := by unfold vneg; rw [length_mapR]; omega
theorem vadd_out {f : Fld} (hS : Shape f) (a b : List Int) : ¬ outF f (vadd f a b) := outF_mapR fun _ _ _ => hS.addF_lt _ _
section
variable {f : Fld} (h : FOk f)
theorem kv_vadd {a b : List Int} (hl : b.length ≤ a.length) (j : Nat) : kv h (vadd f a b) j = kv h a j + kv h b j := by
  by_cases hj : j < a.length
  · rw [kv_ix, kv_ix h a, kv_ix h b]
    unfold vadd
    rw [ix_mapR 0 _ (by omega) (by omega), ke_add]
  · rw [kv_out h (by rw [length_vadd]; omega), kv_out h (v := a) (by omega), kv_out h (v := b) (by omega), Fi.add_zero]
end
namespace COk
variable {c : Cod}
theorem kvw (h : COk c) {x : List Int} (hx : c.Gen.length ≤ x.length) : kv h.fld (comb c.F x c.Gen c.N) = La.lin (kv h.fld x) (km h.fld c.Gen) c.Gen.length := kv_comb h.fld (fun _ hl => h.wdn hl) hx
end COk
theorem ix_vadd {f : Fld} {a b : List Int} {i : Int} (h0 : 0 ≤ i) (h1 : i < a.length) : ix 0 (vadd f a b) i = addF f (ix 0 a i) (ix 0 b i) := ix_mapR 0 _ h0 h1
namespace COk
variable {c : Cod}
theorem wl (h : COk c) (i : Int) : (c.w i).length = c.N.toNat := length_wdF _ _ _ _
end COk
noncomputable def coL (c : Cod) (y : List Int) : List Int := if neE c y = 0 then hisTo (c.N + 1) (fun i => dst (c.w i) y) c.n else []
end Go.Cw


set_option linter.unusedVariables false
set_option linter.unusedSimpArgs false
set_option linter.unusedSectionVars false
namespace Go.Cw
def hisOn (L : List Int) (g : Int → Int) (s : Int) : Nat → List Int
  | 0 => L
  | k + 1 => (hisOn L g s k).set (g k).toNat (ix 0 (hisOn L g s k) (g k) + s)
@[simp] theorem length_hisOn (L : List Int) (g : Int → Int) (s : Int) : ∀ k, (hisOn L g s k).length = L.length
  | 0 => rfl
  | k + 1 => by simp [hisOn, length_hisOn L g s k]
/-- Rows of one length. -/
def lens (l : List (List Int)) (n : Int) : Prop := ∀ i : Int, 0 ≤ i → i < l.length → ((ix [] l i).length : Int) = n
def dg (l : List (List Int)) (a : Int) : Int → Int := fun b => dst (ix [] l a) (ix [] l b)
def disR (l : List (List Int)) (n : Int) : Nat → List Int
  | 0 => List.replicate (n + 1).toNat 0
  | k + 1 => hisOn (disR l n k) (dg l k) 1 l.length
def disP (l : List (List Int)) (n : Int) : Nat → List Int
  | 0 => (List.replicate (n + 1).toNat 0).set 0 l.length
  | k + 1 => hisOn (disP l n k) (dg l k) 2 k
@[simp] theorem length_disR (l : List (List Int)) (n : Int) : ∀ k, (disR l n k).length = (n + 1).toNat
  | 0 => by simp [disR]
  | k + 1 => by simp [disR, length_disR l n k]
@[simp] theorem length_disP (l : List (List Int)) (n : Int) : ∀ k, (disP l n k).length = (n + 1).toNat
  | 0 => by simp [disP]
  | k + 1 => by simp [disP, length_disP l n k]
section
variable {l : List (List Int)} {n : Int}
theorem dst_self (a : List Int) : dst a a = 0 := dstTo_zero.2 fun _ _ _ => rfl
/-- Pairs in either order. -/
theorem pairs (l : List (List Int)) (j : Int) : ∀ k : Nat, smT (fun a => cntTo (dg l a) j k) k = (if 0 = j then (k : Int) else 0) + 2 * smT (fun a => cntTo (dg l a) j a.toNat) k
  | 0 => by
    show (0 : Int) = (if 0 = j then ((0 : Nat) : Int) else 0) + 2 * 0
    split <;> rfl
  | k + 1 => by
    have ih := pairs l j k
    have e1 : smT (fun a => cntTo (dg l a) j (k + 1)) k = smT (fun a => cntTo (dg l a) j k) k + cntTo (dg l k) j k := by
      have : smT (fun a => cntTo (dg l a) j (k + 1)) k = smT (fun a => cntTo (dg l a) j k + (if dg l a k = j then 1 else 0)) k := rfl
      rw [this, smT_add, cnt_smT (dg l k)]
      congr 1
      exact smT_congr fun a _ _ => by unfold dg; rw [dst_symm]
    have e2 : cntTo (dg l k) j (k + 1) = cntTo (dg l k) j k + (if 0 = j then 1 else 0) := by
      show cntTo (dg l k) j k + (if dg l k k = j then 1 else 0) = _
      rw [show dg l k k = 0 from dst_self _]
    rw [smT, smT, e1, e2, ih, show ((k : Int)).toNat = k by omega]
    split <;> omega
end
end Go.Cw


set_option linter.unusedVariables false
set_option linter.unusedSimpArgs false
set_option linter.unusedSectionVars false
namespace Go.Cw
/-- A canonical matrix is its own canonical matrix. -/
theorem canR_idem {f : Fld} {n : Nat} {X : List (List Int)} (h : FOk f) (hX : good f n X) : canR (elim f (canR (elim f X [] n)) [] n) = canR (elim f X [] n) := by
  have hg := canR_good h.1 hX n
  have hl := length_canR f X n
  have s1 := elim_span h hX n
  refine (can_uniq h hg hX (fun i hi => ?_) (fun i hi => ?_)).2
  · rw [km_canR h (by omega)]
    exact s1.1 i (by have := piv_le f X [] n; omega)
  · have hm : ix [] X i ∈ X := ix_mem [] X (i := (i : Int)) (by omega) (by omega)
    have e := can_row h hX hm
    have hk : km h X i = kv h (ix [] X i) := by rw [ix_nat]; rfl
    rw [hk, ← e, kv_comb h (fun l hl' => by have := (hg l hl').1; omega) (by simp; omega)]
    exact ⟨_, rfl⟩
def dua (c : Cod) : Cod := ⟨c.F, c.N, nullR c.F c.Gen c.N⟩
namespace COk
variable {c : Cod}
theorem rows_can (hk : COk c) : canR (elim c.F c.Gen [] c.N.toNat) = c.Gen := by
  have := hk.can
  rw [canM_ok hk.mat] at this
  exact this
theorem good (hk : COk c) : good c.F c.N.toNat c.Gen := mat_good hk.gmat
theorem dim_dua (hk : COk c) : ((dua c).Gen.length : Int) + c.Gen.length = c.N := by
  have hd := null_dim hk.fld hk.good
  have hl := length_canR c.F c.Gen c.N.toNat
  have hn := hk.n1
  rw [hk.rows_can] at hl
  show ((nullR c.F c.Gen c.N).length : Int) + _ = _
  rw [show ((c.N.toNat : Nat) : Int) = c.N by omega] at hd
  omega
theorem good_dua (hk : COk c) : Go.Cw.good c.F c.N.toNat (dua c).Gen := canR_good hk.fld.1 (ker_good hk.fld.1 _ _ _ _) _
theorem mat_dua (hk : COk c) : mErr c.F ⟨c.N, (dua c).Gen⟩ = 0 := by
  have hn := hk.n1; have h64 := hk.n64; have hd := hk.dim_dua
  exact mErr_zero.2 ⟨hk.fld, good_mat (by show 0 ≤ c.N; omega) (by show c.N ≤ 256; omega) (by show (dua c).Gen.length ≤ 256; omega) hk.good_dua⟩
theorem dua (hk : COk c) : COk (dua c) where
  fld := hk.fld
  n1 := hk.n1
  n64 := hk.n64
  mat := hk.mat_dua
  can := by
    show (canM c.F ⟨c.N, (Go.Cw.dua c).Gen⟩).rows = (Go.Cw.dua c).Gen
    rw [canM_ok hk.mat_dua]
    exact canR_idem hk.fld (ker_good hk.fld.1 _ _ _ _)
end COk
theorem kerM_code {c : Cod} (hk : COk c) : kerM c.F c.m = ⟨c.N, (dua c).Gen⟩ := kerM_ok hk.mat
theorem expE_err {q k m : Int} (h : expE q k m ≠ 0) : expE q k m = 8 := by
  unfold expE at h ⊢
  split
  · rename_i h1; rw [if_pos h1] at h; exact absurd rfl h
  · rfl
structure Tly where
  dual : Bool
  count : List Int
end Go.Cw


set_option linter.unusedVariables false
set_option linter.unusedSimpArgs false
set_option linter.unusedSectionVars false
namespace Go.Cw
def binT : Nat → Int → Int
  | 0, j => if j = 0 then 1 else 0
  | n + 1, j => binT n j + binT n (j - 1)
def spK (P : List Int) : Nat → Int
  | 0 => 0
  | i + 1 => if spK P i < P.length ∧ ix 0 P (spK P i) = i then spK P i + 1 else spK P i
def spJ (P : List Int) (R : Int) : Nat → Int
  | 0 => 0
  | i + 1 => if spK P i < P.length ∧ ix 0 P (spK P i) = i then spJ P R i else if spJ P R i < R then spJ P R i + 1 else spJ P R i
def spO (P d : List Int) (n : Int) : Nat → List Int
  | 0 => List.replicate n.toNat 0
  | i + 1 => if spK P i < P.length ∧ ix 0 P (spK P i) = i then spO P d n i else if spJ P d.length i < d.length then (spO P d n i).set i (ix 0 d (spJ P d.length i)) else spO P d n i
def sprd (n : Int) (P d : List Int) : List Int := spO P d n n.toNat
@[simp] theorem length_spO (P d : List Int) (n : Int) : ∀ i : Nat, (spO P d n i).length = n.toNat
  | 0 => List.length_replicate
  | i + 1 => by
    unfold spO
    split
    · exact length_spO P d n i
    · split
      · rw [List.length_set]; exact length_spO P d n i
      · exact length_spO P d n i
section
variable {P : List Int} (hi : ∀ a b : Int, 0 ≤ a → a < b → b < P.length → ix 0 P a < ix 0 P b) (h0 : ∀ a : Int, 0 ≤ a → a < P.length → 0 ≤ ix 0 P a)
include hi h0
end
@[simp] theorem length_sprd (n : Int) (P d : List Int) : (sprd n P d).length = n.toNat := length_spO _ _ _ _
/-- The word that stands for a coset. -/
noncomputable def cosW (c : Cod) (i : Int) : List Int := sprd c.N (canP c.F c.m) (dgs c.F.q (dua c).Gen.length i)
namespace COk
variable {c : Cod}
end COk
end Go.Cw


set_option linter.unusedVariables false
set_option linter.unusedSimpArgs false
set_option linter.unusedSectionVars false
namespace Go.Cw
def ld : List Int → Int
  | [] => 0
  | x :: l => if x = 0 then ld l + 1 else 0
section
variable {P d : List Int} {n R i : Int} (h0 : 0 ≤ i)
include h0
end
def bnR (n m : Int) : List Int := mapR (fun z => binT m.toNat z) (n + 1)
def bnL (n m k : Int) : List Int := mapR (fun z => if k < z then binT m.toNat z else binT (m - 1).toNat z) (n + 1)
@[simp] theorem length_bnR (n m : Int) : (bnR n m).length = (n + 1).toNat := length_mapR _ _
@[simp] theorem length_bnL (n m k : Int) : (bnL n m k).length = (n + 1).toNat := length_mapR _ _
noncomputable def totL (c : Cod) (i : Int) : List Int := mapR (fun j => smT (fun t => ix 0 (coL c (cosW c t)) j) i.toNat) (c.N + 1)
@[simp] theorem length_totL (c : Cod) (i : Int) : (totL c i).length = (c.N + 1).toNat := length_mapR _ _
end Go.Cw


set_option linter.unusedVariables false
set_option linter.unusedSimpArgs false
set_option linter.unusedSectionVars false
namespace Go.Cw
noncomputable def csE (c : Cod) : Int := if codE c = 0 then sizE (dua c) else codE c
noncomputable def csV (c : Cod) : Int := if csE c = 0 then c.F.q ^ (dua c).Gen.length else 0
noncomputable def wsE (c : Cod) (y : List Int) : Int := if wrdE c y = 0 then csE c else wrdE c y
noncomputable def opE (c : Cod) (y : List Int) (has : Bool) : Int := if has = true then wsE c y else csE c
theorem csE_code {c : Cod} (h : codE c ≠ 0) : csE c = codE c := if_neg h
theorem csE_siz {c : Cod} (h : codE c = 0) : csE c = sizE (dua c) := if_pos h
theorem csE_zero {c : Cod} : csE c = 0 ↔ COk c ∧ c.F.q ^ (dua c).Gen.length ≤ 65536 := by
  constructor
  · intro h
    have h0 : codE c = 0 := Classical.byContradiction fun hn => by rw [csE_code hn] at h; exact hn h
    rw [csE_siz h0] at h
    exact ⟨codE_zero.1 h0, (sizE_zero.1 h).2⟩
  · rintro ⟨h1, h2⟩
    rw [csE_siz (codE_zero.2 h1)]
    exact sizE_zero.2 ⟨h1.dua, h2⟩
theorem ws_word {c : Cod} {y : List Int} (h : wsE c y = 0) : wrdE c y = 0 := Classical.byContradiction fun hn => by unfold wsE at h; rw [if_neg hn] at h; exact hn h
theorem ws_cs {c : Cod} {y : List Int} (h : wsE c y = 0) : csE c = 0 := by have hw := ws_word h; unfold wsE at h; rw [if_pos hw] at h; exact h
theorem csE_exp {c : Cod} (hk : COk c) : csE c = expE c.F.q ((dua c).Gen.length : Int) 65536 := by
  rw [csE_siz (codE_zero.2 hk)]
  exact sizE_exp (codE_zero.2 hk.dua)
theorem csV_exp {c : Cod} (hk : COk c) : csV c = expF c.F.q ((dua c).Gen.length : Int) 65536 := by
  unfold csV
  rw [csE_exp hk]
  unfold expE expF
  rw [Int.toNat_natCast]
  by_cases h : c.F.q ^ (dua c).Gen.length ≤ 65536
  · rw [if_pos h, if_pos h, if_pos rfl]
  · rw [if_neg h, if_neg h, if_neg (by decide)]
theorem dua_len {c : Cod} (hk : COk c) : c.N - (c.Gen.length : Int) = ((dua c).Gen.length : Int) := by have := hk.dim_dua; omega
theorem wrdE_code {c : Cod} {y : List Int} (h : codE c ≠ 0) : wrdE c y = codE c := if_neg h
theorem opE_code {c : Cod} {y : List Int} {d : Bool} (h : codE c ≠ 0) : opE c y d = codE c := by
  unfold opE wsE
  split
  · rw [wrdE_code h, if_neg h]
  · exact csE_code h
theorem opE_word {c : Cod} {y : List Int} {d : Bool} (hd : d = true) (h : wrdE c y ≠ 0) : opE c y d = wrdE c y := by
  unfold opE wsE; rw [if_pos hd, if_neg h]
theorem opE_cs {c : Cod} {y : List Int} {d : Bool} (h : d = false ∨ wrdE c y = 0) : opE c y d = csE c := by
  unfold opE wsE
  by_cases hd : d = true
  · rw [if_pos hd, if_pos (h.resolve_left (by simp [hd]))]
  · rw [if_neg hd]
theorem opE_zero {c : Cod} {y : List Int} {d : Bool} (h : opE c y d = 0) : csE c = 0 ∧ (d = true → wrdE c y = 0) := by
  unfold opE wsE at h
  by_cases hd : d = true
  · rw [if_pos hd] at h
    by_cases hw : wrdE c y = 0
    · rw [if_pos hw] at h; exact ⟨h, fun _ => hw⟩
    · rw [if_neg hw] at h; exact absurd h hw
  · rw [if_neg hd] at h; exact ⟨h, fun h2 => absurd h2 hd⟩
/-- The syndrome of a word, as a list; as an index. -/
def synL (c : Cod) (y : List Int) : List Int := mapR (fun i => dotF c.F (ix [] (dua c).Gen i) y) (dua c).Gen.length
noncomputable def synE (c : Cod) (y : List Int) : List Int := if wrdE c y = 0 then synL c y else []
noncomputable def syV (c : Cod) (y : List Int) : Int := if wsE c y = 0 then valD c.F.q (synL c y) else 0
@[simp] theorem length_synL (c : Cod) (y : List Int) : (synL c y).length = (dua c).Gen.length := by unfold synL; rw [length_mapR]; omega
theorem synL_out {c : Cod} (hS : Shape c.F) (y : List Int) : ¬ outF c.F (synL c y) := outF_mapR fun _ _ _ => dot_lt hS _ _
theorem mulF_comm2 {f : Fld} (h : Shape f) (x y : Int) : mulF f x y = mulF f y x := by
  have h1 := h.mulF_lt x y
  have h2 := h.mulF_lt y x
  refine Shape.e_inj h h1.1 h1.2 h2.1 h2.2 ?_
  rw [Shape.e_mul h, Shape.e_mul h]; exact Rg.mul_comm f.R (Rg.elt_el f.R _) (Rg.elt_el f.R _)
theorem dotF_comm {f : Fld} (hS : Shape f) (a b : List Int) : dotF f a b = dotF f b a := by
  have : ∀ n, dotTo f a b n = dotTo f b a n := fun n => by
    induction n with
    | zero => rfl
    | succ n ih => unfold dotTo; rw [ih, mulF_comm2 hS]
  unfold dotF
  rw [this, Nat.min_comm]
/-- The value of the first digits. -/
def valT (q : Int) (l : List Int) (i : Int) : Int := valD q (l.take i.toNat)
theorem valT_step {q : Int} {l : List Int} {i : Int} (h0 : 0 ≤ i) (h1 : i < l.length) : valT q l (i + 1) = valT q l i * q + ix 0 l i := by
  unfold valT
  rw [show (i + 1).toNat = i.toNat + 1 by omega, List.take_succ_eq_append_getElem (by omega), valD_snoc]
  congr 1
  have := ix_nat 0 l i.toNat
  rw [show ((i.toNat : Nat) : Int) = i by omega] at this
  rw [this, List.getD_eq_getElem?_getD, List.getElem?_eq_getElem (by omega)]
  rfl
theorem valT_all {q : Int} {l : List Int} {i : Int} (h : (l.length : Int) ≤ i) : valT q l i = valD q l := by
  unfold valT; rw [List.take_of_length_le (by omega)]
theorem valT_bd {f : Fld} (hS : Shape f) {l : List Int} (ho : ¬ outF f l) (hx : f.q ^ l.length ≤ 65536) {i : Int} (h0 : 0 ≤ i) (h1 : i ≤ l.length) : 0 ≤ valT f.q l i ∧ valT f.q l i < 65536 := by
  have hb := hS.bd
  have h := valD_dgs (q := f.q) (by omega) i.toNat (l.take i.toNat) (by rw [List.length_take]; omega) (fun x hx => outF_no ho (List.mem_of_mem_take hx))
  have hm := pow_mono_of f.q (by omega) (show i.toNat ≤ l.length by omega)
  unfold valT; omega
def colS (D : List (List Int)) (n j m : Int) : List (List Int) := mapR (fun i => if i < j then D.map (fun r => ix 0 r i) else if i = j then (D.take m.toNat).map (fun r => ix 0 r i) else []) n
@[simp] theorem length_colS (D : List (List Int)) (n j m : Int) : (colS D n j m).length = n.toNat := length_mapR _ _
theorem colS_zero (D : List (List Int)) {n : Int} : colS D n 0 0 = List.replicate n.toNat [] := by
  refine ext_ix [] (by simp) fun i i0 i1 => ?_
  rw [length_colS] at i1
  unfold colS
  rw [ix_mapR [] _ i0 (by omega), if_neg (by omega)]
  have hr : ix [] (List.replicate n.toNat ([] : List Int)) i = [] := by unfold ix; simp only [List.getD]; rw [List.getElem?_replicate]; split <;> rfl
  rw [hr]
  split <;> simp
theorem colS_next (D : List (List Int)) {n j m : Int} (hj : 0 ≤ j) (hm : (D.length : Int) ≤ m) : colS D n j m = colS D n (j + 1) 0 := by
  refine ext_ix [] (by simp) fun i i0 i1 => ?_
  rw [length_colS] at i1
  unfold colS
  rw [ix_mapR [] _ i0 (by omega), ix_mapR [] _ i0 (by omega), List.take_of_length_le (by omega)]
  by_cases h1 : i < j
  · rw [if_pos h1, if_pos (by omega)]
  · rw [if_neg h1]
    by_cases h2 : i = j
    · rw [if_pos h2, if_pos (by omega)]
    · rw [if_neg h2, if_neg (by omega)]
      split <;> simp
theorem colS_all (D : List (List Int)) {n j : Int} (hj : n ≤ j) : colS D n j 0 = turnL D n := by
  refine ext_ix [] (by rw [length_colS]; unfold turnL; rw [length_mapR]) fun i i0 i1 => ?_
  rw [length_colS] at i1
  unfold colS turnL
  rw [ix_mapR [] _ i0 (by omega), ix_mapR [] _ i0 (by omega), if_pos (by omega)]
theorem ix_colS (D : List (List Int)) {n j m : Int} (h0 : 0 ≤ j) (h1 : j < n) : ix [] (colS D n j m) j = (D.take m.toNat).map (fun r => ix 0 r j) := by
  unfold colS
  rw [ix_mapR [] _ h0 h1, if_neg (by omega), if_pos rfl]
theorem colS_step (D : List (List Int)) {n j m : Int} (h0 : 0 ≤ j) (h1 : j < n) (m0 : 0 ≤ m) (m1 : m < D.length) : (colS D n j m).set j.toNat (ix [] (colS D n j m) j ++ [ix 0 (ix [] D m) j]) = colS D n j (m + 1) := by
  have e : (D.take m.toNat).map (fun r => ix 0 r j) ++ [ix 0 (ix [] D m) j] = (D.take (m + 1).toNat).map (fun r => ix 0 r j) := by
    rw [show (m + 1).toNat = m.toNat + 1 by omega, List.take_succ_eq_append_getElem (by omega), List.map_append]
    congr 1
    have := ix_nat [] D m.toNat
    rw [show ((m.toNat : Nat) : Int) = m by omega] at this
    rw [this, List.getD_eq_getElem?_getD, List.getElem?_eq_getElem (by omega)]
    rfl
  rw [ix_colS D h0 h1, e]
  refine ext_ix [] (by simp) fun i i0 i1 => ?_
  rw [List.length_set, length_colS] at i1
  rw [ix_setE [] _ _ h0 (by rw [length_colS]; omega) i0]
  unfold colS
  rw [ix_mapR [] _ i0 (by omega), ix_mapR [] _ i0 (by omega)]
  by_cases h2 : i = j
  · rw [if_pos h2, if_neg (by omega), if_pos h2, h2]
  · rw [if_neg h2, if_neg h2, if_neg h2]
theorem dot_word {c : Cod} (hk : COk c) {x : List Int} (hx : x ∈ (dua c).Gen) (v : Int) : La.sm (fun j => kv hk.fld x j * kv hk.fld (c.w v) j) c.N.toNat = 0 := by
  have hg := (hk.good_dua x hx).1
  have hsp : La.Span (km hk.fld c.Gen) c.Gen.length (kv hk.fld (c.w v)) := by
    show La.Span _ _ (kv hk.fld (comb c.F _ c.Gen c.N))
    rw [hk.kvw (by simp)]
    exact ⟨_, rfl⟩
  refine La.Span.ind (Φ := fun u => La.sm (fun j => kv hk.fld x j * u j) c.N.toNat = 0) ?_ ?_ ?_ (m := c.Gen.length) (fun i hi => ?_) _ hsp
  · exact La.sm_zero fun j _ => Fi.mul_zero _
  · intro u w hu hw
    rw [show (fun j => kv hk.fld x j * (u j + w j)) = fun j => kv hk.fld x j * u j + kv hk.fld x j * w j from funext fun j => Fi.mul_add _ _ _, La.sm_add, hu, hw, Fi.add_zero]
  · intro a u hu
    rw [show (fun j => kv hk.fld x j * (a * u j)) = fun j => a * (kv hk.fld x j * u j) from funext fun j => by ac_rfl, La.sm_mul, hu, Fi.mul_zero]
  · have hm : ix [] c.Gen i ∈ c.Gen := ix_mem [] _ (i := (i : Int)) (by omega) (by omega)
    have hx' : x ∈ nullR c.F c.Gen ((c.N.toNat : Nat) : Int) := by
      have := hk.n1
      rw [show ((c.N.toNat : Nat) : Int) = c.N by omega]
      exact hx
    have h0 := null_orth hk.fld hk.good hx' hm
    have hd := ke_dot hk.fld x (ix [] c.Gen i) (n := c.N.toNat) (by omega)
    rw [h0, ke_zero] at hd
    rw [hd]
    refine La.sm_congr fun j _ => ?_
    rw [show km hk.fld c.Gen i j = kv hk.fld (ix [] c.Gen i) j by rw [ix_nat]; rfl]
theorem synL_add {c : Cod} (hk : COk c) {y : List Int} (hy : (y.length : Int) = c.N) (v : Int) : synL c (vadd c.F y (c.w v)) = synL c y := by
  refine ext_ix 0 (by simp) fun i i0 i1 => ?_
  rw [length_synL] at i1
  unfold synL
  rw [ix_mapR 0 _ i0 i1, ix_mapR 0 _ i0 i1]
  have hm : ix [] (dua c).Gen i ∈ (dua c).Gen := ix_mem [] _ i0 i1
  have hg := (hk.good_dua _ hm).1
  have r1 := dot_lt hk.fld.1 (ix [] (dua c).Gen i) (vadd c.F y (c.w v))
  have r2 := dot_lt hk.fld.1 (ix [] (dua c).Gen i) y
  refine ke_inj hk.fld r1.1 r1.2 r2.1 r2.2 ?_
  have hF : (dua c).F = c.F := rfl
  rw [ke_dot hk.fld _ _ (n := c.N.toNat) (by omega), ke_dot hk.fld _ _ (n := c.N.toNat) (by omega)]
  rw [show (fun j => kv hk.fld (ix [] (dua c).Gen i) j * kv hk.fld (vadd c.F y (c.w v)) j) = fun j => kv hk.fld (ix [] (dua c).Gen i) j * kv hk.fld y j + kv hk.fld (ix [] (dua c).Gen i) j * kv hk.fld (c.w v) j from funext fun j => by
    rw [kv_vadd hk.fld (by rw [hk.wl]; omega), Fi.mul_add], La.sm_add, dot_word hk hm v, Fi.add_zero]
/-- A word and its sum with a codeword have one syndrome. -/
theorem syn_add {c : Cod} {y m : List Int} (h : wsE c y = 0) (hm : encE c m = 0) : y.length = (encC c m).length ∧ wsE c (vadd c.F y (encC c m)) = 0 ∧ syV c (vadd c.F y (encC c m)) = syV c y := by
  have hw : wrdE c y = 0 := Classical.byContradiction fun hn => by unfold wsE at h; rw [if_neg hn] at h; exact hn h
  have hcs : csE c = 0 := by unfold wsE at h; rw [if_pos hw] at h; exact h
  obtain ⟨hk, hl, ho⟩ := wrdE_zero.1 hw
  obtain ⟨_, hml, hmo⟩ := encE_zero.1 hm
  obtain ⟨v, v0, v1, ev⟩ := msg_index hk hml hmo
  have hc : encC c m = c.w v := by unfold encC; rw [if_pos hm]; exact ev
  have hN := hk.n1
  rw [hc]
  have hw2 : wrdE c (vadd c.F y (c.w v)) = 0 := wrdE_zero.2 ⟨hk, by rw [length_vadd]; exact hl, vadd_out hk.fld.1 _ _⟩
  have h2 : wsE c (vadd c.F y (c.w v)) = 0 := by unfold wsE; rw [if_pos hw2]; exact hcs
  refine ⟨by rw [hk.wl]; omega, h2, ?_⟩
  unfold syV
  rw [if_pos h2, if_pos h, synL_add hk hl]
def awK : Cod := ⟨awF, 2, []⟩
theorem awk_m : mErr awF awK.m = 0 := mErr_zero.2 ⟨aw_f, matErr_zero.2 ⟨by simp [sizeBad, awK, Cod.m], not_ragged (by simp [awK, Cod.m]), not_badRow (by decide +kernel)⟩⟩
theorem awk_ok : COk awK := ⟨aw_f, by decide, by decide, awk_m, by rw [show awK.F = awF from rfl, canM_ok awk_m]; show canR (canX awF awK.m) = _; decide +kernel⟩
theorem awk_e : csE awK = 0 := csE_zero.2 ⟨awk_ok, by decide +kernel⟩
theorem awk_v : csV awK = 4 := by unfold csV; rw [if_pos awk_e]; decide +kernel
def idxF (f : Fld) : List Int → Int → Int
  | [], _ => -1
  | x :: l, i => if 0 ≤ x ∧ x < f.q then idxF f l (i + 1) else i
theorem idx_next {f : Fld} {l : List Int} {i : Int} (h0 : 0 ≤ i) (h1 : i < l.length) (h : 0 ≤ ix 0 l i ∧ ix 0 l i < f.q) : idxF f (l.drop i.toNat) i = idxF f (l.drop (i + 1).toNat) (i + 1) := by
  rw [drop_ix h0 h1, idxF, if_pos h, show (i + 1).toNat = i.toNat + 1 by omega]
theorem idx_hit {f : Fld} {l : List Int} {i : Int} (h0 : 0 ≤ i) (h1 : i < l.length) (h : ¬ (0 ≤ ix 0 l i ∧ ix 0 l i < f.q)) : idxF f (l.drop i.toNat) i = i := by
  rw [drop_ix h0 h1, idxF, if_neg h]
theorem idx_end {f : Fld} {l : List Int} {i : Int} (h : (l.length : Int) ≤ i) : idxF f (l.drop i.toNat) i = -1 := by
  rw [List.drop_of_length_le (by omega)]; rfl
theorem idx_out {f : Fld} : ∀ {l : List Int} {i : Int}, 0 ≤ i → (0 ≤ idxF f l i ↔ outF f l)
  | [], i, h => ⟨fun h2 => absurd h2 (by show ¬ (0 : Int) ≤ -1; decide), fun ⟨x, hx, _⟩ => by cases hx⟩
  | x :: l, i, h => by
    unfold idxF
    by_cases hx : 0 ≤ x ∧ x < f.q
    · rw [if_pos hx, idx_out (l := l) (by omega)]
      exact ⟨fun ⟨y, hy, hn⟩ => ⟨y, List.mem_cons_of_mem _ hy, hn⟩, fun ⟨y, hy, hn⟩ => by
        rcases List.mem_cons.1 hy with e | e
        · rw [e] at hn; exact absurd hx hn
        · exact ⟨y, e, hn⟩⟩
    · rw [if_neg hx]
      exact ⟨fun _ => ⟨x, List.mem_cons_self, hx⟩, fun _ => h⟩
end Go.Cw

