/-
  Plain facts.
-/
import Derived.Test.YtfjhbdfgbpcchaaPlainJ1
set_option linter.unnecessarySimpa false
set_option linter.unusedVariables false
set_option linter.unusedSimpArgs false
set_option linter.unusedSectionVars false
namespace Go.Cw
def dstTo (a b : List Int) : Nat -> Int
 | 0 => 0
 | k + 1 => dstTo a b k + (if ix 0 a k ≠ ix 0 b k then 1 else 0)
def dst (a b : List Int) : Int := dstTo a b (min a.length b.length)
theorem dstTo_bd (a b : List Int) : ∀ k : Nat, 0 <= dstTo a b k /\ dstTo a b k <= k
 | 0 => ⟨Int.le_refl _, Int.le_refl _⟩
 | k + 1 => by
  have := dstTo_bd a b k
  unfold dstTo
  split <;> omega
theorem dstTo_congr {a b a' b' : List Int} : ∀ k : Nat, (∀ i : Int, 0 <= i -> i < k -> (ix 0 a i ≠ ix 0 b i ↔ ix 0 a' i ≠ ix 0 b' i)) -> dstTo a b k = dstTo a' b' k
 | 0, _ => rfl
 | k + 1, h => by
  unfold dstTo
  rw [dstTo_congr k fun i h0 h1 => h i h0 (by omega)]
  have := h k (by omega) (by omega)
  by_cases e : ix 0 a k ≠ ix 0 b k
  ·rw [if_pos e, if_pos (this.1 e)]
  ·rw [if_neg e, if_neg fun h => e (this.2 h)]
theorem ix_nilI (i : Int) : ix 0 ([] : List Int) i = 0 := by unfold ix; simp
theorem ix_zeros (n : Nat) (i : Int) : ix 0 (List.replicate n (0 : Int)) i = 0 := by
 unfold ix
 rw [List.getD_eq_getElem?_getD, List.getElem?_replicate]
 split <;> rfl
theorem dst_symm (a b : List Int) : dst a b = dst b a := by
 unfold dst
 rw [Nat.min_comm]
 exact dstTo_congr _ fun i _ _ => by constructor <;> exact fun h e => h e.symm
theorem dstTo_zero {a b : List Int} : ∀ {k : Nat}, dstTo a b k = 0 ↔ ∀ i : Int, 0 <= i -> i < k -> ix 0 a i = ix 0 b i
 | 0 => ⟨fun _ i h0 h1 => by omega, fun _ => rfl⟩
 | k + 1 => by
  have hb := dstTo_bd a b k
  have ih := dstTo_zero (a := a) (b := b) (k := k)
  unfold dstTo
  constructor
  ·intro h i h0 h1
   by_cases e : ix 0 a k ≠ ix 0 b k
   ·rw [if_pos e] at h; omega
   ·rw [if_neg e, Int.add_zero] at h
    by_cases hi : i = k
    ·rw [hi]; exact Classical.not_not.1 e
    ·exact ih.1 h i h0 (by omega)
  ·intro h
   rw [if_neg (fun e => e (h k (by omega) (by omega))), ih.2 fun i h0 h1 => h i h0 (by omega)]; rfl
def hisTo (n : Int) (g : Int -> Int) : Nat -> List Int
 | 0 => List.replicate n.toNat 0
 | k + 1 => (hisTo n g k).set (g k).toNat (ix 0 (hisTo n g k) (g k) + 1)
@[simp] theorem length_hisTo (n : Int) (g : Int -> Int) : ∀ k, (hisTo n g k).length = n.toNat
 | 0 => by simp [hisTo]
 | k + 1 => by simp [hisTo, length_hisTo n g k]
def cntTo (g : Int -> Int) (j : Int) : Nat -> Int
 | 0 => 0
 | k + 1 => cntTo g j k + (if g k = j then 1 else 0)
theorem cntTo_bd (g : Int -> Int) (j : Int) : ∀ k : Nat, 0 <= cntTo g j k /\ cntTo g j k <= k
 | 0 => ⟨Int.le_refl _, Int.le_refl _⟩
 | k + 1 => by
  have := cntTo_bd g j k
  unfold cntTo
  split <;> omega
end Go.Cw
set_option linter.unusedVariables false
set_option linter.unusedSimpArgs false
set_option linter.unusedSectionVars false
namespace Go.Cw
namespace COk
variable {c : Cod}
theorem canf (h : COk c) : CanF c.F c.m := can_facts h.mat
theorem plen (h : COk c) : (canP c.F c.m).length = c.Gen.length := by rw [<- h.canf.len, h.can]
theorem q2 (h : COk c) : 2 <= c.F.q := h.fld.1.bd.2.2.2.2.2.1
end COk
end Go.Cw
set_option linter.unusedVariables false
set_option linter.unusedSimpArgs false
set_option linter.unusedSectionVars false
namespace Go.Cw
section
variable {α : Type} {g : Int -> Int} {p : Int -> Bool} {z : Int} {wd : Int -> List α} {i : Int}
end
def valD (q : Int) : List Int -> Int := fun l => l.foldl (fun a d => a * q + d) 0
noncomputable def lisE (f : Fld) (l : List Int) (n : Int) : Int := if (l.length : Int) ≠ n then 4 else entErr f l
theorem lisE_zero {f : Fld} {l : List Int} {n : Int} : lisE f l n = 0 ↔ (l.length : Int) = n /\ ¬ outF f l := by
 unfold lisE
 by_cases h : (l.length : Int) ≠ n
 ·rw [if_pos h]; exact Iff.intro (fun h => by cases h) (fun h2 => absurd h2.1 h)
 ·rw [if_neg h, entErr_zero]; exact ⟨fun h2 => ⟨Classical.not_not.1 h, h2⟩, fun h2 => h2.2⟩
noncomputable def wrdE (c : Cod) (w : List Int) : Int := if codE c = 0 then lisE c.F w c.N else codE c
theorem wrdE_zero {c : Cod} {w : List Int} : wrdE c w = 0 ↔ COk c /\ (w.length : Int) = c.N /\ ¬ outF c.F w := by
 unfold wrdE
 by_cases h : codE c = 0
 ·rw [if_pos h, lisE_zero, <- codE_zero]; exact ⟨fun h2 => ⟨h, h2⟩, fun h2 => h2.2⟩
 ·rw [if_neg h, <- codE_zero]; exact ⟨fun h2 => absurd h2 h, fun h2 => absurd h2.1 h⟩
abbrev Cod.w (c : Cod) (i : Int) : List Int := wdF c.F c.N c.Gen i
abbrev Cod.n (c : Cod) : Nat := (c.F.q ^ c.Gen.length).toNat
noncomputable def neE (c : Cod) (y : List Int) : Int := if wrdE c y = 0 then sizE c else wrdE c y
end Go.Cw
set_option linter.unusedVariables false
set_option linter.unusedSimpArgs false
set_option linter.unusedSectionVars false
namespace Go.Cw
def smT (h : Int -> Int) : Nat -> Int
 | 0 => 0
 | k + 1 => smT h k + h k
theorem smT_congr {h h' : Int -> Int} : ∀ {k : Nat}, (∀ i : Int, 0 <= i -> i < k -> h i = h' i) -> smT h k = smT h' k
 | 0, _ => rfl
 | k + 1, e => by rw [smT, smT, smT_congr fun i h0 h1 => e i h0 (by omega), e k (by omega) (by omega)]
theorem smT_add (g h : Int -> Int) : ∀ k : Nat, smT (fun i => g i + h i) k = smT g k + smT h k
 | 0 => rfl
 | k + 1 => by rw [smT, smT, smT, smT_add g h k]; omega
theorem smT_zero {h : Int -> Int} {k : Nat} (e : ∀ i : Int, 0 <= i -> i < k -> h i = 0) : smT h k = 0 := by
 induction k with
 | zero => rfl
 | succ k ih => rw [smT, ih fun i h0 h1 => e i h0 (by omega), e k (by omega) (by omega)]; rfl
theorem smT_single (a v : Int) : ∀ (k : Nat), 0 <= v -> smT (fun i => if v = i then a else 0) k = if v < k then a else 0
 | 0, h => by rw [if_neg (by omega)]; rfl
 | k + 1, h => by
  rw [smT, smT_single a v k h]
  by_cases e : v = k
  ·rw [if_neg (by omega), if_pos e, if_pos (by omega)]; omega
  ·rw [if_neg e]
   by_cases h2 : v < k
   ·rw [if_pos h2, if_pos (by omega)]; omega
   ·rw [if_neg h2, if_neg (by omega)]; rfl
theorem smT_le_one {h : Int -> Int} : ∀ {n : Nat}, (∀ i : Int, 0 <= i -> i < n -> h i <= 1) -> smT h n <= n
 | 0, _ => Int.le_refl _
 | n + 1, e => by
  have : smT h n <= n := smT_le_one (n := n) fun i h0 h1 => e i h0 (by omega)
  have h2 := e n (by omega) (by omega)
  rw [smT]; omega
theorem smT_all_one {h : Int -> Int} : ∀ {n : Nat}, (∀ i : Int, 0 <= i -> i < n -> h i <= 1) -> smT h n = n -> ∀ i : Int, 0 <= i -> i < n -> h i = 1
 | 0, _, _, i, h0, h1 => by omega
 | n + 1, e, hs, i, h0, h1 => by
  have h2 := e n (by omega) (by omega)
  have h3 : smT h n <= n := smT_le_one (n := n) fun i h0 h1 => e i h0 (by omega)
  rw [smT] at hs
  by_cases hi : i = n
  ·rw [hi]; omega
  ·exact smT_all_one (n := n) (fun i h0 h1 => e i h0 (by omega)) (by omega) i h0 (by omega)
theorem cnt_smT (g : Int -> Int) (j : Int) : ∀ k : Nat, cntTo g j k = smT (fun i => if g i = j then 1 else 0) k
 | 0 => rfl
 | k + 1 => by rw [cntTo, smT, cnt_smT g j k]
structure PermN (p : Int -> Int) (n : Nat) : Prop where
 rng : ∀ i : Int, 0 <= i -> i < n -> 0 <= p i /\ p i < n
 inj : ∀ i j : Int, 0 <= i -> i < n -> 0 <= j -> j < n -> p i = p j -> i = j
namespace PermN
variable {p : Int -> Int} {n : Nat}
theorem le_one (h : PermN p n) (v : Int) : ∀ k : Nat, k <= n -> cntTo p v k <= 1 /\ (cntTo p v k = 1 -> ∃ i : Int, 0 <= i /\ i < k /\ p i = v)
 | 0, _ => ⟨show (0 : Int) <= 1 by decide, fun h => absurd (show (0 : Int) = 1 from h) (by decide)⟩
 | k + 1, hk => by
  obtain ⟨h1, h2⟩ := h.le_one v k (by omega)
  have hb := cntTo_bd p v k
  unfold cntTo
  by_cases e : p k = v
  ·rw [if_pos e]
   have h0 : cntTo p v k = 0 := by
    by_cases h3 : cntTo p v k = 1
    ·obtain ⟨i, i0, i1, i2⟩ := h2 h3
     have := h.inj i k i0 (by omega) (by omega) (by omega) (by rw [i2, e])
     omega
    ·omega
   rw [h0]
   exact ⟨by decide, fun _ => ⟨k, by omega, by omega, e⟩⟩
  ·rw [if_neg e, Int.add_zero]
   exact ⟨h1, fun h3 => by obtain ⟨i, i0, i1, i2⟩ := h2 h3; exact ⟨i, i0, by omega, i2⟩⟩
theorem total (h : PermN p n) : ∀ k : Nat, k <= n -> smT (fun v => cntTo p v k) n = k
 | 0, _ => smT_zero fun _ _ _ => rfl
 | k + 1, hk => by
  have hr := h.rng k (by omega) (by omega)
  show smT (fun v => cntTo p v k + (if p k = v then 1 else 0)) n = _
  rw [smT_add, h.total k (by omega), smT_single 1 (p k) n hr.1, if_pos hr.2]; omega
theorem one (h : PermN p n) : ∀ v : Int, 0 <= v -> v < n -> cntTo p v n = 1 :=
 smT_all_one (fun i _ _ => (h.le_one i n (Nat.le_refl _)).1) (h.total n (Nat.le_refl _))
theorem sum_to (h : PermN p n) (g : Int -> Int) : ∀ k : Nat, k <= n -> smT (fun i => g (p i)) k = smT (fun v => g v * cntTo p v k) n
 | 0, _ => (smT_zero fun _ _ _ => Int.mul_zero _).symm
 | k + 1, hk => by
  have hr := h.rng k (by omega) (by omega)
  have e : smT (fun v => g v * cntTo p v (k + 1)) n = smT (fun v => g v * cntTo p v k + (if p k = v then g (p k) else 0)) n := smT_congr fun v _ _ => by
   show g v * (cntTo p v k + (if p k = v then 1 else 0)) = _
   by_cases e : p k = v
   ·rw [if_pos e, if_pos e, Int.mul_add, Int.mul_one, e]
   ·rw [if_neg e, if_neg e, Int.add_zero, Int.add_zero]
  rw [e, smT_add, <- h.sum_to g k (by omega), smT_single (g (p k)) (p k) n hr.1, if_pos hr.2]; rfl
theorem sum (h : PermN p n) (g : Int -> Int) : smT (fun i => g (p i)) n = smT g n := by
 rw [h.sum_to g n (Nat.le_refl _)]
 exact smT_congr fun v h0 h1 => by rw [h.one v h0 h1, Int.mul_one]
theorem cnt (h : PermN p n) (g : Int -> Int) (j : Int) : cntTo (fun i => g (p i)) j n = cntTo g j n := by
 rw [cnt_smT, cnt_smT]
 exact h.sum fun v => if g v = j then 1 else 0
end PermN
def vadd (f : Fld) (a b : List Int) : List Int := mapR (fun i => addF f (ix 0 a i) (ix 0 b i)) a.length
def vneg (f : Fld) (a : List Int) : List Int := mapR (fun i => negF f (ix 0 a i)) a.length
@[simp] theorem length_vadd (f : Fld) (a b : List Int) : (vadd f a b).length = a.length := by unfold vadd; rw [A_m]; omega
@[simp] theorem length_vneg (f : Fld) (a : List Int) : (vneg f a).length = a.length := by unfold vneg; rw [A_m]; omega
section
variable {f : Fld} (h : FOk f)
end
namespace COk
variable {c : Cod}
end COk
namespace COk
variable {c : Cod}
end COk
noncomputable def coL (c : Cod) (y : List Int) : List Int := if neE c y = 0 then hisTo (c.N + 1) (fun i => dst (c.w i) y) c.n else []
end Go.Cw
set_option linter.unusedVariables false
set_option linter.unusedSimpArgs false
set_option linter.unusedSectionVars false
namespace Go.Cw
def hisOn (L : List Int) (g : Int -> Int) (s : Int) : Nat -> List Int
 | 0 => L
 | k + 1 => (hisOn L g s k).set (g k).toNat (ix 0 (hisOn L g s k) (g k) + s)
@[simp] theorem length_hisOn (L : List Int) (g : Int -> Int) (s : Int) : ∀ k, (hisOn L g s k).length = L.length
 | 0 => rfl
 | k + 1 => by simp [hisOn, length_hisOn L g s k]
theorem ix_set (l : List Int) {i j v : Int} (i0 : 0 <= i) (i1 : i < l.length) (j0 : 0 <= j) : ix 0 (l.set i.toNat v) j = if i = j then v else ix 0 l j := by
 unfold ix
 rw [List.getD_eq_getElem?_getD, List.getD_eq_getElem?_getD]
 by_cases e : i = j
 ·subst e; rw [if_pos rfl, List.getElem?_set_self (by omega)]; rfl
 ·rw [if_neg e, List.getElem?_set_ne (by omega)]
def lens (l : List (List Int)) (n : Int) : Prop := ∀ i : Int, 0 <= i -> i < l.length -> ((ix [] l i).length : Int) = n
def dg (l : List (List Int)) (a : Int) : Int -> Int := fun b => dst (ix [] l a) (ix [] l b)
def disR (l : List (List Int)) (n : Int) : Nat -> List Int
 | 0 => List.replicate (n + 1).toNat 0
 | k + 1 => hisOn (disR l n k) (dg l k) 1 l.length
def disP (l : List (List Int)) (n : Int) : Nat -> List Int
 | 0 => (List.replicate (n + 1).toNat 0).set 0 l.length
 | k + 1 => hisOn (disP l n k) (dg l k) 2 k
@[simp] theorem length_disR (l : List (List Int)) (n : Int) : ∀ k, (disR l n k).length = (n + 1).toNat
 | 0 => by simp [disR]
 | k + 1 => by simp [disR, length_disR l n k]
@[simp] theorem length_disP (l : List (List Int)) (n : Int) : ∀ k, (disP l n k).length = (n + 1).toNat
 | 0 => by simp [disP]
 | k + 1 => by simp [disP, length_disP l n k]
section
variable {l : List (List Int)} {n : Int}
theorem dst_self (a : List Int) : dst a a = 0 := dstTo_zero.2 fun _ _ _ => rfl
theorem pairs (l : List (List Int)) (j : Int) : ∀ k : Nat, smT (fun a => cntTo (dg l a) j k) k = (if 0 = j then (k : Int) else 0) + 2 * smT (fun a => cntTo (dg l a) j a.toNat) k
 | 0 => by
  show (0 : Int) = (if 0 = j then ((0 : Nat) : Int) else 0) + 2 * 0
  split <;> rfl
 | k + 1 => by
  have ih := pairs l j k
  have e1 : smT (fun a => cntTo (dg l a) j (k + 1)) k = smT (fun a => cntTo (dg l a) j k) k + cntTo (dg l k) j k := by
   have : smT (fun a => cntTo (dg l a) j (k + 1)) k = smT (fun a => cntTo (dg l a) j k + (if dg l a k = j then 1 else 0)) k := rfl
   rw [this, smT_add, cnt_smT (dg l k)]
   congr 1
   exact smT_congr fun a _ _ => by unfold dg; rw [dst_symm]
  have e2 : cntTo (dg l k) j (k + 1) = cntTo (dg l k) j k + (if 0 = j then 1 else 0) := by
   show cntTo (dg l k) j k + (if dg l k k = j then 1 else 0) = _
   rw [show dg l k k = 0 from dst_self _]
  rw [smT, smT, e1, e2, ih, show ((k : Int)).toNat = k by omega]
  split <;> omega
end
end Go.Cw
set_option linter.unusedVariables false
set_option linter.unusedSimpArgs false
set_option linter.unusedSectionVars false
namespace Go.Cw
theorem canR_idem {f : Fld} {n : Nat} {X : List (List Int)} (h : FOk f) (hX : good f n X) : canR (elim f (canR (elim f X [] n)) [] n) = canR (elim f X [] n) := by
 have hg := canR_good h.1 hX n
 have hl := length_canR f X n
 have s1 := elim_span h hX n
 refine (can_uniq h hg hX (fun i hi => ?_) (fun i hi => ?_)).2
 ·rw [km_canR h (by omega)]
  exact s1.1 i (by have := piv_le f X [] n; omega)
 ·have hm : ix [] X i ∈ X := ix_mem [] X (i := (i : Int)) (by omega) (by omega)
  have e := can_row h hX hm
  have hk : km h X i = kv h (ix [] X i) := by rw [ix_nat]; rfl
  rw [hk, <- e, kv_comb h (fun l hl' => by have := (hg l hl').1; omega) (by simp; omega)]
  exact ⟨_, rfl⟩
def dua (c : Cod) : Cod := ⟨c.F, c.N, nullR c.F c.Gen c.N⟩
namespace COk
variable {c : Cod}
theorem rows_can (hk : COk c) : canR (elim c.F c.Gen [] c.N.toNat) = c.Gen := by
 have := hk.can
 rw [canM_ok hk.mat] at this
 exact this
theorem good (hk : COk c) : good c.F c.N.toNat c.Gen := mat_good hk.gmat
theorem dim_dua (hk : COk c) : ((dua c).Gen.length : Int) + c.Gen.length = c.N := by
 have hd := null_dim hk.fld hk.good
 have hl := length_canR c.F c.Gen c.N.toNat
 have hn := hk.n1
 rw [hk.rows_can] at hl
 show ((nullR c.F c.Gen c.N).length : Int) + _ = _
 rw [show ((c.N.toNat : Nat) : Int) = c.N by omega] at hd
 omega
theorem good_dua (hk : COk c) : Go.Cw.good c.F c.N.toNat (dua c).Gen := canR_good hk.fld.1 (ker_good hk.fld.1 _ _ _ _) _
theorem mat_dua (hk : COk c) : mErr c.F ⟨c.N, (dua c).Gen⟩ = 0 := by
 have hn := hk.n1; have h64 := hk.n64; have hd := hk.dim_dua
 exact mErr_zero.2 ⟨hk.fld, good_mat (by show 0 <= c.N; omega) (by show c.N <= 256; omega) (by show (dua c).Gen.length <= 256; omega) hk.good_dua⟩
theorem dua (hk : COk c) : COk (dua c) where
 fld := hk.fld
 n1 := hk.n1
 n64 := hk.n64
 mat := hk.mat_dua
 can := by
  show (canM c.F ⟨c.N, (Go.Cw.dua c).Gen⟩).rows = (Go.Cw.dua c).Gen
  rw [canM_ok hk.mat_dua]
  exact canR_idem hk.fld (ker_good hk.fld.1 _ _ _ _)
end COk
structure Tly where
 dual : Bool
 count : List Int
end Go.Cw
set_option linter.unusedVariables false
set_option linter.unusedSimpArgs false
set_option linter.unusedSectionVars false
namespace Go.Cw
def binT : Nat -> Int -> Int
 | 0, j => if j = 0 then 1 else 0
 | n + 1, j => binT n j + binT n (j - 1)
def spK (P : List Int) : Nat -> Int
 | 0 => 0
 | i + 1 => if spK P i < P.length /\ ix 0 P (spK P i) = i then spK P i + 1 else spK P i
def spJ (P : List Int) (R : Int) : Nat -> Int
 | 0 => 0
 | i + 1 => if spK P i < P.length /\ ix 0 P (spK P i) = i then spJ P R i else if spJ P R i < R then spJ P R i + 1 else spJ P R i
def spO (P d : List Int) (n : Int) : Nat -> List Int
 | 0 => List.replicate n.toNat 0
 | i + 1 => if spK P i < P.length /\ ix 0 P (spK P i) = i then spO P d n i else if spJ P d.length i < d.length then (spO P d n i).set i (ix 0 d (spJ P d.length i)) else spO P d n i
def sprd (n : Int) (P d : List Int) : List Int := spO P d n n.toNat
@[simp] theorem length_spO (P d : List Int) (n : Int) : ∀ i : Nat, (spO P d n i).length = n.toNat
 | 0 => List.length_replicate
 | i + 1 => by
  unfold spO
  split
  ·exact length_spO P d n i
  ·split
   ·rw [List.length_set]; exact length_spO P d n i
   ·exact length_spO P d n i
section
variable {P : List Int} (hi : ∀ a b : Int, 0 <= a -> a < b -> b < P.length -> ix 0 P a < ix 0 P b) (h0 : ∀ a : Int, 0 <= a -> a < P.length -> 0 <= ix 0 P a)
include hi h0
end
@[simp] theorem length_sprd (n : Int) (P d : List Int) : (sprd n P d).length = n.toNat := length_spO _ _ _ _
noncomputable def cosW (c : Cod) (i : Int) : List Int := sprd c.N (canP c.F c.m) (dgs c.F.q (dua c).Gen.length i)
namespace COk
variable {c : Cod}
end COk
end Go.Cw
set_option linter.unusedVariables false
set_option linter.unusedSimpArgs false
set_option linter.unusedSectionVars false
namespace Go.Cw
def ld : List Int -> Int
 | [] => 0
 | x :: l => if x = 0 then ld l + 1 else 0
theorem ld_eq : ∀ {l : List Int} {i : Int}, 0 <= i -> i <= l.length -> (∀ z : Int, 0 <= z -> z < i -> ix 0 l z = 0) -> ¬ (i < l.length /\ ix 0 l i = 0) -> ld l = i
 | [], i, h0, h1, _, _ => by
  have h : i <= 0 := h1
  show (0 : Int) = i
  omega
 | x :: l, i, h0, h1, hz, hn => by
  have hs : ∀ z : Int, 0 <= z -> ix 0 (x :: l) (z + 1) = ix 0 l z := fun z z0 => by
   unfold ix; rw [show (z + 1).toNat = z.toNat + 1 by omega]; rfl
  have hx : ix 0 (x :: l) 0 = x := rfl
  have hl : ((x :: l).length : Int) = l.length + 1 := by simp
  unfold ld
  by_cases hi : i = 0
  ·rw [if_neg]
   ·exact hi.symm
   ·intro e
    apply hn
    rw [hi, hx, hl]
    exact ⟨by omega, e⟩
  ·rw [if_pos (by rw [<- hx]; exact hz 0 (Int.le_refl 0) (by omega)), ld_eq (l := l) (i := i - 1) (by omega) (by omega) (fun z z0 z1 => by rw [<- hs z z0]; exact hz _ (by omega) (by omega)) (fun h => hn ⟨by omega, by have := hs (i - 1) (by omega); rw [show i - 1 + 1 = i by omega] at this; rw [this]; exact h.2⟩)]
   omega
def pvL (X : List (List Int)) : List Int := mapR (fun z => ld (ix [] X z)) X.length
theorem COk.pvL_can {c : Cod} (h : COk c) : pvL c.Gen = canP c.F c.m := by
 have hp := h.plen
 refine ext_ix 0 (by unfold pvL; rw [A_m]; omega) fun i i0 i1 => ?_
 have i1' : i < c.Gen.length := by unfold pvL at i1; rw [A_m] at i1; omega
 unfold pvL
 rw [ix_mapR 0 _ i0 i1']
 have hr := h.canf.rng i i0 (by omega)
 have hrow := h.row i0 i1'
 have e3 : c.m.cols = c.N := rfl
 have hl := h.canf.lead i
 have he := h.canf.ent i i i0 (by omega) i0 (by omega)
 rw [h.can] at he
 refine ld_eq hr.1 (by omega) (fun z z0 z1 => by have := hl z i0 (by omega) z0 z1; rwa [h.can] at this) (fun hh => ?_)
 rw [he, if_pos rfl] at hh
 exact absurd hh.2 (by decide)
section
variable {P d : List Int} {n R i : Int} (h0 : 0 <= i)
include h0
end
def bnR (n m : Int) : List Int := mapR (fun z => binT m.toNat z) (n + 1)
def bnL (n m k : Int) : List Int := mapR (fun z => if k < z then binT m.toNat z else binT (m - 1).toNat z) (n + 1)
@[simp] theorem length_bnR (n m : Int) : (bnR n m).length = (n + 1).toNat := A_m _ _
@[simp] theorem length_bnL (n m k : Int) : (bnL n m k).length = (n + 1).toNat := A_m _ _
noncomputable def totL (c : Cod) (i : Int) : List Int := mapR (fun j => smT (fun t => ix 0 (coL c (cosW c t)) j) i.toNat) (c.N + 1)
@[simp] theorem length_totL (c : Cod) (i : Int) : (totL c i).length = (c.N + 1).toNat := A_m _ _
end Go.Cw
set_option linter.unusedVariables false
set_option linter.unusedSimpArgs false
set_option linter.unusedSectionVars false
namespace Go.Cw
def synL (c : Cod) (y : List Int) : List Int := mapR (fun i => dotF c.F (ix [] (dua c).Gen i) y) (dua c).Gen.length
@[simp] theorem length_synL (c : Cod) (y : List Int) : (synL c y).length = (dua c).Gen.length := by unfold synL; rw [A_m]; omega
def colS (D : List (List Int)) (n j m : Int) : List (List Int) := mapR (fun i => if i < j then D.map (fun r => ix 0 r i) else if i = j then (D.take m.toNat).map (fun r => ix 0 r i) else []) n
@[simp] theorem length_colS (D : List (List Int)) (n j m : Int) : (colS D n j m).length = n.toNat := A_m _ _
end Go.Cw
set_option linter.unusedVariables false
set_option linter.unusedSimpArgs false
set_option linter.unusedSectionVars false
namespace Go.Cw
def sufL (G : Int -> Int) (n i : Int) : List Int := mapR (fun z => if i < z then G z else 0) n
@[simp] theorem length_sufL (G : Int -> Int) (n i : Int) : (sufL G n i).length = n.toNat := A_m _ _
def dig (q n x i : Int) : Int := x / q ^ (n - 1 - i).toNat % q
def colC (rows : List (List Int)) (j : Int) : List Int := rows.map fun row => ix 0 row j
@[simp] theorem length_colC (rows : List (List Int)) (j : Int) : (colC rows j).length = rows.length := by simp [colC]
def dcol (c : Cod) (j : Int) : List Int := ix [] (turnL (dua c).Gen c.N) j
def minV (c : Cod) (x j a : Int) : Int := valD c.F.q (mapR (fun i => addF c.F (dig c.F.q (dua c).Gen.length x i) (negF c.F (mulF c.F a (ix 0 (dcol c j) i)))) (dua c).Gen.length)
def rowS (G : Int -> Int -> Int) (M n s m : Int) : List (List Int) := mapR (fun i => if i < s then mapR (G i) M else if i = s then mapR (G i) m else []) n
@[simp] theorem length_rowS (G : Int -> Int -> Int) (M n s m : Int) : (rowS G M n s m).length = n.toNat := A_m _ _
end Go.Cw
set_option linter.unusedVariables false
set_option linter.unusedSimpArgs false
set_option linter.unusedSectionVars false
namespace Go.Cw
abbrev Lab := Int × Int × Int
def lbl (ls : List Lab) (x : Int) : Lab := ix (0, 0, 0) ls x
def LabOk (c : Cod) (ls : List Lab) (x : Int) : Prop :=
 (0 <= (lbl ls x).2.1 /\ (lbl ls x).2.1 < c.N /\ 1 <= (lbl ls x).2.2 /\ (lbl ls x).2.2 < c.F.q) /\ 1 <= (lbl ls x).1 /\ (lbl ls (minV c x (lbl ls x).2.1 (lbl ls x).2.2)).1 = (lbl ls x).1 - 1
def Step3 (c : Cod) (ls : List Lab) (x j a : Int) : Prop := ¬ ((lbl ls x).1 + 1 < (lbl ls (minV c x j a)).1 \/ (lbl ls (minV c x j a)).1 < (lbl ls x).1 - 1)
def Step3R (c : Cod) (ls : List Lab) (x j a : Int) : Prop := ¬ ((lbl ls x).1 + 1 < (lbl ls (minV c x j a)).1)
structure Prv (c : Cod) (ls : List Lab) : Prop where
 len : (ls.length : Int) = c.F.q ^ (dua c).Gen.length
 zero : lbl ls 0 = (0, 0, 0)
 two : ∀ x : Int, 1 <= x -> x < c.F.q ^ (dua c).Gen.length -> LabOk c ls x
 three : ∀ x j a : Int, 0 <= x -> x < c.F.q ^ (dua c).Gen.length -> 0 <= j -> j < c.N -> 1 <= a -> a < c.F.q -> Step3 c ls x j a
structure PrvR (c : Cod) (ls : List Lab) : Prop where
 len : (ls.length : Int) = c.F.q ^ (dua c).Gen.length
 zero : lbl ls 0 = (0, 0, 0)
 two : ∀ x : Int, 1 <= x -> x < c.F.q ^ (dua c).Gen.length -> LabOk c ls x /\ (lbl ls x).1 <= c.N
 three : ∀ x j a : Int, 0 <= x -> x < c.F.q ^ (dua c).Gen.length -> 0 <= j -> j < c.N -> 1 <= a -> a < c.F.q -> Step3R c ls x j a
noncomputable instance (c : Cod) (ls : List Lab) : Decidable (Prv c ls) := Classical.propDecidable _
noncomputable instance (c : Cod) (ls : List Lab) : Decidable (PrvR c ls) := Classical.propDecidable _
end Go.Cw
set_option linter.unusedVariables false
set_option linter.unusedSimpArgs false
set_option linter.unusedSectionVars false
namespace Go.Cw
structure Clm where
 C : Cod
 L : List Lab
 Y : List Int
 M : List Int
 S : Int
def ldr (c : Cod) (ls : List Lab) : Nat -> Int -> List Int -> List Int
 | 0, _, out => out
 | k + 1, x, out => ldr c ls k (minV c x (lbl ls x).2.1 (lbl ls x).2.2) (out.set (lbl ls x).2.1.toNat (addF c.F (ix 0 out (lbl ls x).2.1) (lbl ls x).2.2))
end Go.Cw
set_option linter.unusedVariables false
set_option linter.unusedSimpArgs false
set_option linter.unusedSectionVars false
namespace Go.Cw
section
variable {c : Cod} (hk : COk c) {ls : List Lab} (hp : Prv c ls)
include hk hp
end
end Go.Cw
set_option linter.unusedVariables false
set_option linter.unusedSimpArgs false
set_option linter.unusedSectionVars false
namespace Go.Cw
theorem frC_mem' {P : List Int} {x : Nat} (hP : (x : Int) ∉ P) : ∀ {c : Nat}, x < c -> x ∈ frC P c
 | 0, h => by omega
 | c + 1, h => by
  unfold frC
  by_cases e : x = c
  ·subst e; rw [if_neg hP]; simp
  ·have := frC_mem' hP (c := c) (by omega)
   split
   ·exact this
   ·exact List.mem_append_left _ this
noncomputable def restC (c : Cod) (w : List Int) : Nat -> List Int
 | 0 => w
 | k + 1 => addTo c.F (restC c w k) (negF c.F (ix 0 w (ix 0 (canP c.F c.m) k))) (ix [] c.Gen k)
theorem length_restC (c : Cod) (w : List Int) : ∀ k, (restC c w k).length = w.length
 | 0 => rfl
 | k + 1 => by rw [restC, length_addTo, length_restC c w k]
theorem restC_out {c : Cod} (hS : Shape c.F) {w : List Int} (ho : ¬ outF c.F w) : ∀ k, ¬ outF c.F (restC c w k)
 | 0 => ho
 | k + 1 => out_addTo hS (restC_out hS ho k) _ _
theorem restC_succ (c : Cod) (w : List Int) {i : Int} (h0 : 0 <= i) : restC c w (i + 1).toNat = addTo c.F (restC c w i.toNat) (negF c.F (ix 0 w (ix 0 (canP c.F c.m) i))) (ix [] c.Gen i) := by
 rw [show (i + 1).toNat = i.toNat + 1 by omega, restC, show ((i.toNat : Nat) : Int) = i by omega]
section
variable {c : Cod} (hk : COk c)
include hk
theorem kv_rest {w : List Int} (hl : (w.length : Int) = c.N) (j : Nat) : ∀ k : Nat, k <= c.Gen.length -> kv hk.fld (restC c w k) j = kv hk.fld w j + -(La.sm (fun i => ke hk.fld (ix 0 w (ix 0 (canP c.F c.m) i)) * km hk.fld c.Gen i j) k)
 | 0, _ => by show _ = _ + -(0 : KF c.F hk.fld); rw [Fi.neg_zero, Fi.add_zero]; rfl
 | k + 1, hkk => by
  have ih := kv_rest hl j k (by omega)
  have hr := hk.row (i := (k : Int)) (by omega) (by omega)
  show kv hk.fld (addTo c.F (restC c w k) _ _) j = _ + -(La.sm _ k + ke hk.fld (ix 0 w (ix 0 (canP c.F c.m) k)) * km hk.fld c.Gen k j)
  rw [kv_addTo hk.fld (by rw [length_restC]; omega), ih, ke_neg, Fi.neg_add_rev, show km hk.fld c.Gen k j = kv hk.fld (ix [] c.Gen k) j by rw [ix_nat]; rfl, Fi.neg_mul]
  ac_rfl
theorem rest_zero {w : List Int} (hl : (w.length : Int) = c.N) (ho : ¬ outF c.F w) (hd : ∀ x ∈ (dua c).Gen, dotF c.F x w = 0) : restC c w c.Gen.length = List.replicate c.N.toNat 0 := by
 have hN := hk.n1
 have hP := hk.plen
 have hc := hk.canf
 have e3 : c.m.cols = c.N := rfl
 have hgen : ∀ i j : Nat, i < c.Gen.length -> km hk.fld c.Gen i j = kv hk.fld (ix [] c.Gen i) j := fun i j _ => by rw [ix_nat]; rfl
 have hlr : (restC c w c.Gen.length).length = c.N.toNat := by rw [length_restC]; omega
 have hor := restC_out hk.fld.1 ho c.Gen.length
 have hpiv : ∀ i : Int, 0 <= i -> i < c.Gen.length -> ix 0 (restC c w c.Gen.length) (ix 0 (canP c.F c.m) i) = 0 := fun i i0 i1 => by
  have hr := hc.rng i i0 (by omega)
  have r := ix_ok hk.fld.1 hor (ix 0 (canP c.F c.m) i)
  refine (ke_eq_zero hk.fld r.1 r.2).1 ?_
  obtain ⟨p, hp⟩ : ∃ p : Nat, ix 0 (canP c.F c.m) i = p := ⟨(ix 0 (canP c.F c.m) i).toNat, by omega⟩
  rw [hp, <- kv_ix, kv_rest hk hl p c.Gen.length (Nat.le_refl _)]
  rw [La.sm_one (k := i.toNat) (by omega) (fun j hj hne => ?_)]
  ·rw [hgen _ _ (by omega), kv_ix hk.fld (ix [] c.Gen _), <- hp]
   have he := hc.ent i i i0 (by omega) i0 (by omega)
   rw [hk.can, if_pos rfl] at he
   rw [show ((i.toNat : Nat) : Int) = i by omega, he, ke_one, Fi.mul_one, hp, kv_ix hk.fld w, Fi.add_neg]
  ·have he := hc.ent i j i0 (by omega) (by omega) (by omega)
   rw [hk.can, if_neg (by omega)] at he
   rw [hgen _ _ hj, kv_ix hk.fld (ix [] c.Gen _), <- hp, he, ke_zero, Fi.mul_zero]
 have horth : ∀ x ∈ (dua c).Gen, La.sm (fun j => kv hk.fld x j * kv hk.fld (restC c w c.Gen.length) j) c.N.toNat = 0 := fun x hx => by
  have hg := (hk.good_dua x hx).1
  have hd0 := hd x hx
  have h1 := ke_dot hk.fld x w (n := c.N.toNat) (by omega)
  rw [hd0, ke_zero] at h1
  rw [show (fun j => kv hk.fld x j * kv hk.fld (restC c w c.Gen.length) j) = fun j => kv hk.fld x j * kv hk.fld w j + -(La.sm (fun i => ke hk.fld (ix 0 w (ix 0 (canP c.F c.m) i)) * (kv hk.fld x j * km hk.fld c.Gen i j)) c.Gen.length) from funext fun j => by
   rw [kv_rest hk hl j c.Gen.length (Nat.le_refl _), Fi.mul_add, Fi.mul_neg, <- La.sm_mul]
   congr 2
   exact La.sm_congr fun i _ => by ac_rfl, La.sm_add, <- h1, La.sm_neg, La.sm_swap]
  rw [La.sm_zero fun i hi => ?_, Fi.neg_zero, Fi.add_zero]
  rw [La.sm_mul]
  have hm : ix [] c.Gen i ∈ c.Gen := ix_mem [] _ (i := (i : Int)) (by omega) (by omega)
  have hx' : x ∈ nullR c.F c.Gen ((c.N.toNat : Nat) : Int) := by
   rw [show ((c.N.toNat : Nat) : Int) = c.N by omega]; exact hx
  have h0 := null_orth hk.fld hk.good hx' hm
  have h2 := ke_dot hk.fld x (ix [] c.Gen i) (n := c.N.toNat) (by omega)
  rw [h0, ke_zero] at h2
  rw [La.sm_congr fun j _ => by rw [hgen i j hi], <- h2, Fi.mul_zero]
 refine ext_ix 0 (by simp [hlr]) fun j j0 j1 => ?_
 rw [hlr] at j1
 rw [ix_zeros]
 by_cases hjp : j ∈ canP c.F c.m
 ·obtain ⟨i, i0, i1, e⟩ := mem_ix 0 hjp
  rw [e]
  exact hpiv i i0 (by omega)
 ·-- the word of the kernel for the free place j
  have hE : canP c.F c.m = (elim c.F c.Gen [] c.N.toNat).piv := canP_ok hk.mat
  have hrow : kerTo c.F (canR (elim c.F c.Gen [] c.N.toNat)) (elim c.F c.Gen [] c.N.toNat).piv c.N.toNat j.toNat (elim c.F c.Gen [] c.N.toNat).piv.length ∈ kerX c.F c.Gen c.N.toNat := by
   show _ ∈ kerL c.F _ _ _ _
   rw [kerL_map]
   refine List.mem_map.2 ⟨j.toNat, frC_mem' (by rw [Int.toNat_natCast, <- hE, show ((j.toNat : Nat) : Int) = j by omega]; exact hjp) (by show j.toNat < ((c.N.toNat : Nat) : Int).toNat; omega), rfl⟩
  have hgk := kerX_good hk.fld.1 c.Gen c.N.toNat
  have hcr := can_row hk.fld hgk hrow
  have hD : canR (elim c.F (kerX c.F c.Gen c.N.toNat) [] c.N.toNat) = (dua c).Gen := by
   show _ = nullR c.F c.Gen c.N
   unfold nullR
   rw [show ((c.N.toNat : Nat) : Int) = c.N by omega]
  rw [hD] at hcr
  have hsp : La.Span (km hk.fld (dua c).Gen) (dua c).Gen.length (kv hk.fld (kerTo c.F (canR (elim c.F c.Gen [] c.N.toNat)) (elim c.F c.Gen [] c.N.toNat).piv c.N.toNat j.toNat (elim c.F c.Gen [] c.N.toNat).piv.length)) := by
   have hlen : (dua c).Gen.length = (elim c.F (kerX c.F c.Gen c.N.toNat) [] c.N.toNat).piv.length := by rw [<- hD, length_canR]
   rw [<- hcr, kv_comb hk.fld (fun l hl' => by have := (hk.good_dua l hl').1; omega) (by rw [length_pickL]; omega)]
   exact ⟨_, rfl⟩
  have hzero : La.sm (fun i => kv hk.fld (kerTo c.F (canR (elim c.F c.Gen [] c.N.toNat)) (elim c.F c.Gen [] c.N.toNat).piv c.N.toNat j.toNat (elim c.F c.Gen [] c.N.toNat).piv.length) i * kv hk.fld (restC c w c.Gen.length) i) c.N.toNat = 0 := by
   refine La.Span.ind (Φ := fun u => La.sm (fun i => u i * kv hk.fld (restC c w c.Gen.length) i) c.N.toNat = 0) ?_ ?_ ?_ (m := (dua c).Gen.length) (fun i hi => ?_) _ hsp
   ·exact La.sm_zero fun i _ => Fi.zero_mul _
   ·intro u v hu hv
    rw [show (fun i => (u i + v i) * kv hk.fld (restC c w c.Gen.length) i) = fun i => u i * kv hk.fld (restC c w c.Gen.length) i + v i * kv hk.fld (restC c w c.Gen.length) i from funext fun i => Fi.add_mul _ _ _, La.sm_add, hu, hv, Fi.add_zero]
   ·intro a u hu
    rw [show (fun i => a * u i * kv hk.fld (restC c w c.Gen.length) i) = fun i => a * (u i * kv hk.fld (restC c w c.Gen.length) i) from funext fun i => by ac_rfl, La.sm_mul, hu, Fi.mul_zero]
   ·have hm : ix [] (dua c).Gen i ∈ (dua c).Gen := ix_mem [] _ (i := (i : Int)) (by omega) (by omega)
    have := horth _ hm
    rw [show km hk.fld (dua c).Gen i = kv hk.fld (ix [] (dua c).Gen i) by rw [ix_nat]; rfl]
    exact this
  have hpr := piv_rng c.F c.Gen [] c.N.toNat
  have hone := kerTo_one (f := c.F) (R := canR (elim c.F c.Gen [] c.N.toNat)) (P := (elim c.F c.Gen [] c.N.toNat).piv) (cols := (c.N.toNat : Int)) (c := (j.toNat : Int)) (by omega) (by omega) (fun p hp => (hpr p hp).1) (by rw [<- hE, show ((j.toNat : Nat) : Int) = j by omega]; exact hjp) _ (Nat.le_refl _)
  rw [La.sm_one (k := j.toNat) (by omega) (fun i hi hne => ?_), kv_ix, hone, ke_one, Fi.one_mul, kv_ix, show ((j.toNat : Nat) : Int) = j by omega] at hzero
  ·have r := ix_ok hk.fld.1 hor j
   exact (ke_eq_zero hk.fld r.1 r.2).1 hzero
  ·rw [kv_ix hk.fld (kerTo _ _ _ _ _ _), kv_ix hk.fld (restC _ _ _)]
   by_cases h0 : ix 0 (kerTo c.F (canR (elim c.F c.Gen [] c.N.toNat)) (elim c.F c.Gen [] c.N.toNat).piv c.N.toNat j.toNat (elim c.F c.Gen [] c.N.toNat).piv.length) i = 0
   ·rw [h0, ke_zero, Fi.zero_mul]
   ·rcases kerTo_supp (by omega) (fun p hp => (hpr p hp).1) _ _ (Nat.le_refl _) (by omega) h0 with e | ⟨z, z0, z1, z2⟩
    ·omega
    ·have := hpiv z z0 (by rw [hE] at hP; omega)
     rw [hE, z2] at this
     rw [this, ke_zero, Fi.mul_zero]
end
end Go.Cw
set_option linter.unusedVariables false
set_option linter.unusedSimpArgs false
set_option linter.unusedSectionVars false
namespace Go.Cw
namespace Cnv
theorem rowDeg_of_mem (row : List (List Int)) {j : Int} (h0 : 0 <= j) (h1 : j < row.length) : (trimN (ix [] row j) : Int) - 1 <= degOf row := by
 have key : ∀ n : Nat, j < n -> (trimN (ix [] row j) : Int) - 1 <= rowDeg row n := by
  intro n
  induction n with
  | zero => intro h; omega
  | succ n ih =>
   intro h
   simp only [rowDeg]
   by_cases hj : j = (n : Int)
   ·rw [<- hj]; omega
   ·have := ih (by omega); omega
 exact key row.length (by omega)
theorem gen_zero (c : Cnv) {i j : Int} (j0 : 0 <= j) (j1 : j < (ix [] c.Gen i).length) {d : Int} (hd : c.deg i < d) : ix 0 (ix [] (ix [] c.Gen i) j) d = 0 := by
 have h := rowDeg_of_mem (ix [] c.Gen i) j0 j1
 have := c.deg_nonneg i
 exact trimN_after _ _ (by unfold deg at hd; omega)
end Cnv
end Go.Cw
set_option linter.unusedVariables false
set_option linter.unusedSimpArgs false
set_option linter.unusedSectionVars false
namespace Go.Cw
namespace Cnv
variable {c : Cnv} {s : Int} {inn : List Int}
def dg (c : Cnv) (s i d : Int) : Int := s / c.fst i / c.F.q ^ d.toNat % c.F.q
def GoodU (c : Cnv) (us : List (List Int)) : Prop := ∀ u ∈ us, c.GoodIn u
noncomputable def stepsErr (c : Cnv) : List (List Int) -> Int
 | [] => 0
 | u :: us => if c.inErr u = 0 then stepsErr c us else c.inErr u
theorem stepsErr_zero {c : Cnv} : ∀ {us : List (List Int)}, c.stepsErr us = 0 ↔ c.GoodU us
 | [] => ⟨fun _ u h => absurd h (by simp), fun _ => rfl⟩
 | u :: us => by
  unfold stepsErr
  by_cases h : c.inErr u = 0
  ·rw [if_pos h, stepsErr_zero]
   constructor
   ·intro g v hv
    rcases List.mem_cons.1 hv with rfl | hv
    ·exact inErr_zero.1 h
    ·exact g v hv
   ·exact fun g v hv => g v (List.mem_cons_of_mem _ hv)
  ·rw [if_neg h]
   exact ⟨fun g => absurd g h, fun g => absurd (inErr_zero.2 (g u (by simp))) h⟩
theorem stepsErr_at : ∀ (us : List (List Int)) (t : Nat), (∀ u ∈ us.take t, c.inErr u = 0) -> t < us.length -> c.inErr (us.getD t []) ≠ 0 -> c.stepsErr us = c.inErr (us.getD t [])
 | [], t, _, h, _ => by simp at h
 | u :: us, 0, _, _, h => by
  unfold stepsErr
  simp at h ⊢
  exact fun g => absurd g h
 | u :: us, t + 1, hg, h, hn => by
  unfold stepsErr
  rw [if_pos (hg u (by simp))]
  simpa using stepsErr_at us t (fun v hv => hg v (by simp [hv])) (by simpa using h) (by simpa using hn)
def OkTo (c : Cnv) (us : List (List Int)) (t : Int) : Prop := ∀ u ∈ us.take t.toNat, c.inErr u = 0
theorem OkTo.zero (c : Cnv) (us : List (List Int)) : c.OkTo us 0 := by intro u h; simp at h
theorem OkTo.succ {us : List (List Int)} {t : Int} (h : c.OkTo us t) (h0 : 0 <= t) (h1 : t < us.length) (h2 : c.inErr (ix [] us t) = 0) : c.OkTo us (t + 1) := by
 intro u hu
 rw [take_succ_ix [] us h0 h1] at hu
 rcases List.mem_append.1 hu with hu | hu
 ·exact h u hu
 ·rw [List.mem_singleton] at hu; rw [hu]; exact h2
theorem OkTo.all {us : List (List Int)} {t : Int} (h : c.OkTo us t) (h1 : us.length <= t) : c.stepsErr us = 0 := by
 refine stepsErr_zero.2 fun u hu => inErr_zero.1 (h u ?_)
 rw [List.take_of_length_le (by omega)]; exact hu
theorem OkTo.bad {us : List (List Int)} {t : Int} (h : c.OkTo us t) (h0 : 0 <= t) (h1 : t < us.length) (h2 : c.inErr (ix [] us t) ≠ 0) : c.stepsErr us = c.inErr (ix [] us t) :=
 stepsErr_at us t.toNat h (by omega) h2
theorem GoodU.at {us : List (List Int)} (h : c.GoodU us) {t : Int} (h0 : 0 <= t) (h1 : t < us.length) : c.GoodIn (ix [] us t) := h _ (ix_mem [] us h0 h1)
def back (us : List (List Int)) (i t : Int) : List Int := mapR (fun d => ix 0 (ix [] us (t - d)) i) (t + 1)
theorem ix_back (us : List (List Int)) {i t d : Int} (d0 : 0 <= d) (d1 : d <= t) : ix 0 (back us i t) d = ix 0 (ix [] us (t - d)) i := ix_mapR 0 _ d0 (by omega)
def refTo (c : Cnv) (us : List (List Int)) (t j : Int) : Nat -> Int
 | 0 => 0
 | i + 1 => accF c.F (refTo c us t j i) (ix [] (ix [] c.Gen i) j) (back us i t) (min (t + 1) ((ix [] (ix [] c.Gen i) j).length : Int)).toNat
theorem refTo_succ (c : Cnv) (us : List (List Int)) (t j : Int) {i : Int} (h : 0 <= i) : c.refTo us t j (i + 1).toNat = accF c.F (c.refTo us t j i.toNat) (ix [] (ix [] c.Gen i) j) (back us i t) (min (t + 1) ((ix [] (ix [] c.Gen i) j).length : Int)).toNat := by
 rw [show (i + 1).toNat = i.toNat + 1 by omega, refTo, show ((i.toNat : Nat) : Int) = i by omega]
theorem refTo_lt (h : Shape c.F) (us : List (List Int)) (t j : Int) : ∀ i, 0 <= c.refTo us t j i /\ c.refTo us t j i < c.F.q
 | 0 => by have := h.bd; simp only [refTo]; omega
 | i + 1 => by rw [refTo]; exact accF_lt h (refTo_lt h us t j i).1 (refTo_lt h us t j i).2 _ _ _
def refR (c : Cnv) (us : List (List Int)) (t : Int) : List Int := mapR (fun jj => c.refTo us t jj c.Gen.length) c.n
def refL (c : Cnv) (us : List (List Int)) : List (List Int) := mapR (c.refR us) us.length
theorem ix_ge (l : List Int) {i : Int} (h : (l.length : Int) <= i) : ix 0 l i = 0 := by unfold ix; simp [List.getD]; rw [List.getElem?_eq_none (by omega)]; rfl
end Cnv
end Go.Cw
namespace Go.Cw
theorem ix_set_self (l : List Int) {i : Int} (v : Int) (h0 : 0 <= i) (h1 : i < l.length) : ix 0 (l.set i.toNat v) i = v := by
 have hi : i.toNat < l.length := by omega
 unfold ix; simp [List.getD, hi]
theorem set_fill0 (F : Int -> Int) {n v : Int} (h0 : 0 <= v) (h1 : v < n) : (fillR F 0 n v).set v.toNat 0 = fillR F 0 n v := by
 unfold fillR
 have hl : (mapR F v).length = v.toNat := A_m F v
 rw [List.set_append_right _ _ (by omega), hl, Nat.sub_self]
 congr 1
 rw [show (n - v).toNat = (n - v).toNat - 1 + 1 by omega, List.replicate_succ, List.set_cons_zero]
namespace Cnv
end Cnv
end Go.Cw
set_option linter.unusedVariables false
set_option linter.unusedSimpArgs false
set_option linter.unusedSectionVars false
namespace Go.Cw
namespace Cnv
variable {c : Cnv}
def zrow (c : Cnv) : List Int := List.replicate c.Gen.length 0
def termTo (c : Cnv) (us : List (List Int)) (d : Int) : List (List Int) := us ++ List.replicate d.toNat c.zrow
def term (c : Cnv) (us : List (List Int)) : List (List Int) := c.termTo us c.mem
theorem termTo_succ (us : List (List Int)) {d : Int} (h : 0 <= d) : c.termTo us (d + 1) = c.termTo us d ++ [c.zrow] := by
 unfold termTo
 rw [show (d + 1).toNat = d.toNat + 1 by omega, List.replicate_succ', List.append_assoc]
theorem length_termTo (us : List (List Int)) (d : Int) : (c.termTo us d).length = us.length + d.toNat := by unfold termTo; simp
theorem maxD_ge (c : Cnv) : ∀ (n : Nat) (i : Int), 0 <= i -> i < n -> c.deg i <= c.maxD n
 | 0, i, h0, h1 => by omega
 | n + 1, i, h0, h1 => by
  simp only [maxD]
  by_cases h : i = n
  ·rw [h]; omega
  ·have := maxD_ge c n i h0 (by omega); omega
theorem deg_le_mem {i : Int} (h0 : 0 <= i) (h1 : i < c.Gen.length) : c.deg i <= c.mem := maxD_ge c _ i h0 h1
theorem Few.mem_le (h : c.Few) : c.mem <= 40 := by
 have key : ∀ n : Nat, n <= c.Gen.length -> c.maxD n <= 40 := by
  intro n
  induction n with
  | zero => intro _; simp [maxD]
  | succ n ih =>
   intro hn
   have := ih (by omega)
   have := h.deg_le n (by omega) (by unfold k; omega)
   simp only [maxD]; omega
 exact key _ (Nat.le_refl _)
theorem zrow_good (hq : 2 <= c.F.q) : c.GoodIn c.zrow := by
 refine ⟨by unfold zrow k; simp, ?_⟩
 rintro ⟨x, hx, hb⟩
 have := List.eq_of_mem_replicate hx
 omega
theorem GoodU.term {us : List (List Int)} (hq : 2 <= c.F.q) (h : c.GoodU us) (d : Int) : c.GoodU (c.termTo us d) := by
 intro u hu
 rcases List.mem_append.1 hu with hu | hu
 ·exact h u hu
 ·rw [List.eq_of_mem_replicate hu]; exact zrow_good hq
theorem ix_term_tail (us : List (List Int)) {d t i : Int} (h0 : us.length <= t) (h1 : t < us.length + d.toNat) : ix 0 (ix [] (c.termTo us d) t) i = 0 := by
 have : ix [] (c.termTo us d) t = c.zrow := by
  unfold ix termTo
  simp only [List.getD]
  rw [List.getElem?_append_right (by omega), List.getElem?_replicate, if_pos (by omega)]; rfl
 rw [this]
 unfold zrow; exact ix_replicate0 _ _
end Cnv
end Go.Cw
namespace Go.Cw
end Go.Cw
set_option linter.unusedVariables false
set_option linter.unusedSimpArgs false
set_option linter.unusedSectionVars false
namespace Go.Cw
theorem pl_div {τ n j : Int} (j0 : 0 <= j) (j1 : j < n) : (τ * n + j) / n = τ /\ (τ * n + j) % n = j := by
 constructor
 ·rw [Int.add_comm, Int.add_mul_ediv_right _ _ (by omega), Int.ediv_eq_zero_of_lt j0 j1, Int.zero_add]
 ·rw [Int.add_comm, Int.add_mul_emod_self_right]; exact Int.emod_eq_of_lt j0 j1
theorem pl_rng {τ n j len : Int} (t0 : 0 <= τ) (t1 : τ < len) (j0 : 0 <= j) (j1 : j < n) : 0 <= τ * n + j /\ τ * n + j < n * len := by
 have h1 := Int.mul_nonneg t0 (show 0 <= n by omega)
 have h2 := Int.mul_le_mul_of_nonneg_right (show τ + 1 <= len by omega) (show 0 <= n by omega)
 rw [Int.add_mul, Int.one_mul, Int.mul_comm len n] at h2
 omega
theorem pl_split {p n len : Int} (hn : 1 <= n) (p0 : 0 <= p) (p1 : p < n * len) : 0 <= p / n /\ p / n < len /\ 0 <= p % n /\ p % n < n /\ p = p / n * n + p % n := by
 have h1 := Int.mul_ediv_add_emod p n
 rw [Int.mul_comm] at h1
 exact ⟨Int.ediv_nonneg p0 (by omega), Int.ediv_lt_of_lt_mul (by omega) (by rw [Int.mul_comm]; exact p1), Int.emod_nonneg _ (by omega), Int.emod_lt_of_pos _ (by omega), h1.symm⟩
theorem ix_apg {α : Type} (d : α) {a b : List α} {j : Int} (h0 : 0 <= j) (h1 : j < a.length) : ix d (a ++ b) j = ix d a j := by
 unfold ix
 simp only [List.getD]
 rw [List.getElem?_append_left (by omega)]
theorem ix_bkr {a b : List Int} {n j : Int} (hl : (a.length : Int) = n) (h1 : n <= j) : ix 0 (a ++ b) j = ix 0 b (j - n) := by
 unfold ix
 simp only [List.getD]
 rw [List.getElem?_append_right (by omega), show j.toNat - a.length = (j - n).toNat by omega]
def fltTo (X : List (List Int)) : Nat -> List Int
 | 0 => []
 | k + 1 => fltTo X k ++ ix [] X k
theorem fltTo_succ (X : List (List Int)) {i : Int} (h : 0 <= i) : fltTo X (i + 1).toNat = fltTo X i.toNat ++ ix [] X i := by
 rw [show (i + 1).toNat = i.toNat + 1 by omega, fltTo, show ((i.toNat : Nat) : Int) = i by omega]
theorem fltTo_len {X : List (List Int)} {n : Int} (hn : 0 <= n) : ∀ {k : Nat}, (∀ z : Int, 0 <= z -> z < k -> ((ix [] X z).length : Int) = n) -> ((fltTo X k).length : Int) = n * k
 | 0, _ => by simp [fltTo]
 | k + 1, h => by
  have ih := fltTo_len (X := X) hn (k := k) fun z z0 z1 => h z z0 (by omega)
  have := h k (by omega) (by omega)
  rw [fltTo, List.length_append, Int.natCast_add, ih, this, Int.natCast_add, Int.mul_add]
  simp
theorem ix_fltTo {X : List (List Int)} {n : Int} (hn : 1 <= n) : ∀ {k : Nat}, (∀ z : Int, 0 <= z -> z < k -> ((ix [] X z).length : Int) = n) -> ∀ {p : Int}, 0 <= p -> p < n * k -> ix 0 (fltTo X k) p = ix 0 (ix [] X (p / n)) (p % n)
 | 0, _, p, p0, p1 => by simp at p1; omega
 | k + 1, h, p, p0, p1 => by
  have hl := fltTo_len (X := X) (n := n) (by omega) (k := k) fun z z0 z1 => h z z0 (by omega)
  rw [fltTo]
  by_cases hp : p < n * k
  ·rw [ix_apg 0 p0 (by omega)]
   exact ix_fltTo hn (fun z z0 z1 => h z z0 (by omega)) p0 hp
  ·have hs := pl_split (len := ((k + 1 : Nat) : Int)) hn p0 p1
   have hd : p / n = k := by
    have h3 : (k : Int) <= p / n := (Int.le_ediv_iff_mul_le (by omega)).2 (by rw [Int.mul_comm]; omega)
    omega
   have hm : p - n * k = p % n := by rw [hd] at hs; rw [Int.mul_comm]; omega
   rw [ix_bkr hl (by omega), hd, <- hm]
namespace Cnv
variable (c : Cnv)
def co (i j d : Int) : Int := ix 0 (ix [] (ix [] c.Gen i) j) d
def blkE (len t i τ j : Int) : Nat -> Int
 | 0 => 0
 | d + 1 => if (t + (d : Int)) % len = τ then addF c.F (blkE len t i τ j d) (c.co i j d) else blkE len t i τ j d
theorem blkE_lt (hS : Shape c.F) (len t i τ j : Int) : ∀ d : Nat, 0 <= c.blkE len t i τ j d /\ c.blkE len t i τ j d < c.F.q
 | 0 => by have := hS.bd; show (0 : Int) <= 0 /\ 0 < c.F.q; omega
 | d + 1 => by
  unfold blkE
  split
  ·exact hS.addF_lt _ _
  ·exact blkE_lt hS len t i τ j d
def blkR (len t i d j : Int) : List Int := mapR (fun p => c.blkE len t i (p / c.n) (p % c.n) (if p % c.n < j then (d + 1).toNat else d.toNat)) (c.n * len)
section
variable {c}
theorem length_blkR (len t i d j : Int) : (c.blkR len t i d j).length = (c.n * len).toNat := A_m _ _
theorem blkR_zero (hn : 1 <= c.n) (len t i : Int) : c.blkR len t i 0 0 = List.replicate (c.n * len).toNat 0 := by
 rw [<- mapR_const]
 refine mapR_congr fun p p0 p1 => ?_
 have := Int.emod_nonneg p (show c.n ≠ 0 by omega)
 rw [if_neg (by omega)]; rfl
theorem blkR_next (hn : 1 <= c.n) (len t i : Int) {d j : Int} (hj : j = c.n) : c.blkR len t i d j = c.blkR len t i (d + 1) 0 := by
 refine mapR_congr fun p p0 p1 => ?_
 have h0 := Int.emod_nonneg p (show c.n ≠ 0 by omega)
 have h1 := Int.emod_lt_of_pos p (show 0 < c.n by omega)
 rw [if_pos (by omega), if_neg (by omega)]
theorem blkR_set {len t i d j τ : Int} (hτ : τ = (t + d) % len) (hl : 1 <= len) (d0 : 0 <= d) (j0 : 0 <= j) (j1 : j < c.n) :
  (c.blkR len t i d j).set (τ * c.n + j).toNat (addF c.F (ix 0 (c.blkR len t i d j) (τ * c.n + j)) (c.co i j d)) = c.blkR len t i d (j + 1) := by
 have t0 : 0 <= τ := by rw [hτ]; exact Int.emod_nonneg _ (by omega)
 have t1 : τ < len := by rw [hτ]; exact Int.emod_lt_of_pos _ (by omega)
 have hr := pl_rng (len := len) t0 t1 j0 j1
 have hd := pl_div (τ := τ) j0 j1
 have hat : ix 0 (c.blkR len t i d j) (τ * c.n + j) = c.blkE len t i τ j d.toNat := by
  unfold blkR; rw [ix_mapR 0 _ hr.1 hr.2, hd.1, hd.2, if_neg (by omega)]
 rw [hat]
 refine ext_ix 0 (by rw [List.length_set, length_blkR, length_blkR]) fun p p0 p1 => ?_
 rw [List.length_set, length_blkR] at p1
 have hs := pl_split (len := len) (show 1 <= c.n by omega) p0 (by omega)
 rw [ix_set _ hr.1 (by rw [length_blkR]; omega) p0]
 unfold blkR
 rw [ix_mapR 0 _ p0 (by omega), ix_mapR 0 _ p0 (by omega)]
 by_cases e : τ * c.n + j = p
 ·rw [if_pos e, <- e, hd.1, hd.2, if_pos (by omega), show (d + 1).toNat = d.toNat + 1 by omega, blkE, show ((d.toNat : Nat) : Int) = d by omega, if_pos hτ.symm]
 ·rw [if_neg e]
  by_cases h1 : p % c.n < j
  ·rw [if_pos h1, if_pos (by omega)]
  ·rw [if_neg h1]
   by_cases h2 : p % c.n = j
   ·have h3 : p / c.n ≠ τ := fun h => e (by rw [<- h, <- h2]; exact hs.2.2.2.2.symm)
    rw [if_pos (by omega), show (d + 1).toNat = d.toNat + 1 by omega, blkE, show ((d.toNat : Nat) : Int) = d by omega, if_neg (by rw [<- hτ]; exact fun h => h3 h.symm)]
   ·rw [if_neg (by omega)]
theorem co_deg (hOk : c.Ok) {i j d : Int} (i0 : 0 <= i) (i1 : i < c.Gen.length) (j0 : 0 <= j) (j1 : j < c.n) (hd : c.deg i < d) : c.co i j d = 0 :=
 c.gen_zero (i := i) j0 (by rw [hOk.row i0 i1]; exact j1) hd
theorem co_len {i j d : Int} (hd : ((ix [] (ix [] c.Gen i) j).length : Int) <= d) : c.co i j d = 0 := ix_ge _ hd
end
def blkL (steps len : Int) : List (List Int) := mapR (fun z => c.blkR len (z / c.k) (z % c.k) (c.deg (z % c.k) + 1) 0) (steps * c.k)
section
variable {c}
theorem blkL_step {len t i : Int} (t0 : 0 <= t) (i0 : 0 <= i) (i1 : i < c.k) : mapR (fun z => c.blkR len (z / c.k) (z % c.k) (c.deg (z % c.k) + 1) 0) (t * c.k + i) ++ [c.blkR len t i (c.deg i + 1) 0] = mapR (fun z => c.blkR len (z / c.k) (z % c.k) (c.deg (z % c.k) + 1) 0) (t * c.k + (i + 1)) := by
 have h := Int.mul_nonneg t0 (show 0 <= c.k by omega)
 have hd := pl_div (τ := t) i0 i1
 rw [<- Int.add_assoc, mapR_succ _ (by omega), hd.1, hd.2]
theorem ix_blkL (hk : 1 <= c.k) (steps len : Int) {t i : Int} (t0 : 0 <= t) (t1 : t < steps) (i0 : 0 <= i) (i1 : i < c.k) : ix [] (c.blkL steps len) (t * c.k + i) = c.blkR len t i (c.deg i + 1) 0 := by
 have hr := pl_rng (len := steps) t0 t1 i0 i1
 have hd := pl_div (τ := t) i0 i1
 unfold blkL
 rw [ix_mapR [] _ hr.1 (by rw [Int.mul_comm steps]; exact hr.2), hd.1, hd.2]
theorem blkR_out (hS : Shape c.F) (len t i d j : Int) : ¬ outF c.F (c.blkR len t i d j) := outF_mapR fun _ _ _ => c.blkE_lt hS _ _ _ _ _ _
theorem blkL_good (hS : Shape c.F) (steps len : Int) : good c.F (c.n * len).toNat (c.blkL steps len) := by
 intro l hl
 unfold blkL at hl
 obtain ⟨z, z0, z1, rfl⟩ := mem_ix [] hl
 rw [A_m] at z1
 rw [ix_mapR [] _ z0 (by omega)]
 exact ⟨length_blkR _ _ _ _ _, blkR_out hS _ _ _ _ _⟩
end
section
variable {c}
theorem ke_blkE (h : FOk c.F) {len t i τ j : Int} (t0 : 0 <= t) (τ1 : τ < len) : ∀ m : Nat, t + (m : Int) <= len -> ke h (c.blkE len t i τ j m) = if t <= τ /\ τ - t < m then ke h (c.co i j (τ - t)) else 0
 | 0, _ => by rw [if_neg (by omega)]; exact ke_zero h
 | m + 1, hm => by
  have ih := ke_blkE h (i := i) (j := j) t0 τ1 m (by omega)
  rw [blkE, Int.emod_eq_of_lt (by omega) (by omega)]
  by_cases e : t + (m : Int) = τ
  ·rw [if_pos e, ke_add, ih, if_neg (by omega), if_pos (by omega), Fi.zero_add, show τ - t = m by omega]
  ·rw [if_neg e, ih]
   by_cases h2 : t <= τ /\ τ - t < m
   ·rw [if_pos h2, if_pos (by omega)]
   ·rw [if_neg h2, if_neg (by omega)]
end
end Cnv
end Go.Cw
set_option linter.unusedVariables false
set_option linter.unusedSimpArgs false
set_option linter.unusedSectionVars false
namespace Go.Cw
section
variable {f : Fld} (h : FOk f) {N : Int} {X : List (List Int)} (hX : good f N.toNat X)
include h hX
theorem gen_cok (n1 : 1 <= N) (n64 : N <= 64) : COk ⟨f, N, canR (elim f X [] N.toNat)⟩ := by
 have hg := canR_good h.1 hX N.toNat
 have hl := length_canR f X N.toNat
 have hp := piv_le f X [] N.toNat
 have hm : mErr f ⟨N, canR (elim f X [] N.toNat)⟩ = 0 := mErr_zero.2 ⟨h, good_mat (by show 0 <= N; omega) (by show N <= 256; omega) (by show (canR _).length <= 256; omega) hg⟩
 exact ⟨h, n1, n64, hm, by
  show (canM f ⟨N, canR (elim f X [] N.toNat)⟩).rows = canR (elim f X [] N.toNat)
  rw [canM_ok hm]
  exact canR_idem h hX⟩
theorem gen_in {v : Nat -> KF f h} (hv : La.Span (km h X) X.length v) : La.Span (km h (canR (elim f X [] N.toNat))) (canR (elim f X [] N.toNat)).length v := by
 have hg := canR_good h.1 hX N.toNat
 refine hv.trans fun i hi => ?_
 have hm : ix [] X i ∈ X := ix_mem [] X (i := (i : Int)) (by omega) (by omega)
 have e := can_row h hX hm
 have hk : km h X i = kv h (ix [] X i) := by rw [ix_nat]; rfl
 rw [hk, <- e, kv_comb h (fun l hl' => by have := (hg l hl').1; omega) (by rw [length_pickL, length_canR]; exact Nat.le_refl _)]
 exact ⟨_, rfl⟩
theorem gen_of {v : Nat -> KF f h} (hv : La.Span (km h (canR (elim f X [] N.toNat))) (canR (elim f X [] N.toNat)).length v) : La.Span (km h X) X.length v := by
 have hl := length_canR f X N.toNat
 have hp := piv_le f X [] N.toNat
 have s1 := elim_span h hX N.toNat
 refine hv.trans fun i hi => ?_
 rw [km_canR h (by omega)]
 exact s1.1 i (by omega)
end
section
variable {c : Cod} (hk : COk c)
include hk
theorem span_rest {w : List Int} (hl : (w.length : Int) = c.N) (ho : ¬ outF c.F w) (hs : La.Span (km hk.fld c.Gen) c.Gen.length (kv hk.fld w)) : restC c w c.Gen.length = List.replicate c.N.toNat 0 := by
 refine rest_zero hk hl ho fun x hx => ?_
 have hg := (hk.good_dua x hx).1
 have hn := hk.n1
 have hN : (dua c).N = c.N := rfl
 have r := dot_lt hk.fld.1 x w
 refine (ke_eq_zero hk.fld r.1 r.2).1 ?_
 rw [ke_dot hk.fld x w (n := c.N.toNat) (by omega)]
 refine La.Span.ind (Φ := fun u => La.sm (fun i => kv hk.fld x i * u i) c.N.toNat = 0) ?_ ?_ ?_ (m := c.Gen.length) (fun i hi => ?_) _ hs
 ·exact La.sm_zero fun i _ => Fi.mul_zero _
 ·intro u v hu hv
  rw [show (fun i => kv hk.fld x i * (u i + v i)) = fun i => kv hk.fld x i * u i + kv hk.fld x i * v i from funext fun i => Fi.mul_add _ _ _, La.sm_add, hu, hv, Fi.add_zero]
 ·intro a u hu
  rw [show (fun i => kv hk.fld x i * (a * u i)) = fun i => a * (kv hk.fld x i * u i) from funext fun i => by ac_rfl, La.sm_mul, hu, Fi.mul_zero]
 ·have hm : ix [] c.Gen i ∈ c.Gen := ix_mem [] _ (i := (i : Int)) (by omega) (by omega)
  have hx' : x ∈ nullR c.F c.Gen ((c.N.toNat : Nat) : Int) := by
   rw [show ((c.N.toNat : Nat) : Int) = c.N by omega]; exact hx
  have h0 := null_orth hk.fld hk.good hx' hm
  have h2 := ke_dot hk.fld x (ix [] c.Gen i) (n := c.N.toNat) (by omega)
  rw [h0, ke_zero] at h2
  rw [show km hk.fld c.Gen i = kv hk.fld (ix [] c.Gen i) by rw [ix_nat]; rfl, <- h2]
end
namespace Cnv
variable {c : Cnv}
noncomputable def tC (c : Cnv) (steps len : Int) : Cod := ⟨c.F, c.n * len, canR (elim c.F (c.blkL steps len) [] (c.n * len).toNat)⟩
noncomputable def tE (c : Cnv) (steps len : Int) : Int := if c.err ≠ 0 then c.err else if steps < 1 then 6 else if 64 < steps \/ 64 < c.n * len then 4 else 0
noncomputable def tR (c : Cnv) (steps len : Int) : Cod := if c.tE steps len = 0 then c.tC steps len else Cod.no
theorem tE_err {steps len : Int} (h : c.err ≠ 0) : c.tE steps len = c.err := if_pos h
theorem tE_rng {steps len : Int} (h : c.err = 0) (h1 : steps < 1) : c.tE steps len = 6 := by unfold tE; rw [if_neg (by simp [h]), if_pos h1]
theorem tE_len {steps len : Int} (h : c.err = 0) (h1 : ¬ steps < 1) (h2 : 64 < steps \/ 64 < c.n * len) : c.tE steps len = 4 := by unfold tE; rw [if_neg (by simp [h]), if_neg h1, if_pos h2]
theorem tE_ok {steps len : Int} (h : c.err = 0) (h1 : ¬ steps < 1) (h2 : ¬ (64 < steps \/ 64 < c.n * len)) : c.tE steps len = 0 := by unfold tE; rw [if_neg (by simp [h]), if_neg h1, if_neg h2]
theorem tE_zero {steps len : Int} (h : c.tE steps len = 0) : c.Ok /\ 1 <= steps /\ steps <= 64 /\ c.n * len <= 64 := by
 have h0 : c.err = 0 := Classical.byContradiction fun hn => by rw [tE_err hn] at h; exact hn h
 have h1 : ¬ steps < 1 := fun hn => by rw [tE_rng h0 hn] at h; cases h
 have h2 : ¬ (64 < steps \/ 64 < c.n * len) := fun hn => by rw [tE_len h0 h1 hn] at h; cases h
 exact ⟨err_zero.1 h0, by omega, by omega, by omega⟩
def tB (c : Cnv) (steps len : Int) : Int := if steps < 1 then 6 else if 64 < steps \/ 64 < c.n * len then 4 else 0
theorem tE_tB {steps len : Int} (h : c.err = 0) : c.tE steps len = c.tB steps len := if_neg (by simp [h])
theorem tR_ok {steps len : Int} (h : c.tE steps len = 0) : c.tR steps len = c.tC steps len := if_pos h
theorem blk_mat (hOk : c.Ok) {steps len : Int} (s0 : 0 <= steps) (s1 : steps <= len) (hl : c.n * len <= 64) : mErr c.F ⟨c.n * len, c.blkL steps len⟩ = 0 := by
 have hk := hOk.kn
 have h0 := Int.mul_nonneg (show 0 <= c.n by omega) (show 0 <= len by omega)
 have h1 : steps * c.k <= len * c.n := Int.mul_le_mul s1 (by omega) (by omega) (by omega)
 rw [Int.mul_comm len] at h1
 exact mErr_zero.2 ⟨hOk.fld, good_mat h0 (by show c.n * len <= 256; omega) (by show (c.blkL steps len).length <= 256; unfold blkL; rw [A_m]; omega) (blkL_good hOk.fld.1 _ _)⟩
theorem tC_ok (hOk : c.Ok) {steps len : Int} (s1 : 1 <= len) (hl : c.n * len <= 64) : COk (c.tC steps len) := by
 have hk := hOk.kn
 have h1 : 1 * 1 <= c.n * len := Int.mul_le_mul (by omega) s1 (by omega) (by omega)
 exact gen_cok hOk.fld (blkL_good hOk.fld.1 _ _) (by omega) hl
def movW (w : List Int) (n : Int) : List Int := w.drop ((w.length : Int) - n).toNat ++ w.take ((w.length : Int) - n).toNat
theorem length_movW (w : List Int) (n : Int) : (movW w n).length = w.length := by
 unfold movW
 rw [List.length_append, List.length_drop, List.length_take]; omega
theorem movW_out {f : Fld} {w : List Int} (ho : ¬ outF f w) (n : Int) : ¬ outF f (movW w n) := by
 rintro ⟨x, hx, hb⟩
 rcases List.mem_append.1 hx with h | h
 ·exact ho ⟨x, List.mem_of_mem_drop h, hb⟩
 ·exact ho ⟨x, List.mem_of_mem_take h, hb⟩
theorem ix_movW {w : List Int} {n p : Int} (n0 : 0 < n) (n1 : n <= w.length) (p0 : 0 <= p) (p1 : p < w.length) : ix 0 (movW w n) p = ix 0 w ((p + (w.length - n)) % w.length) := by
 unfold movW ix
 simp only [List.getD]
 by_cases hp : p < n
 ·rw [List.getElem?_append_left (by rw [List.length_drop]; omega), List.getElem?_drop, Int.emod_eq_of_lt (by omega) (by omega), show ((w.length : Int) - n).toNat + p.toNat = (p + (w.length - n)).toNat by omega]
 ·rw [List.getElem?_append_right (by rw [List.length_drop]; omega), List.length_drop, List.getElem?_take, if_pos (by omega)]
  have e : (p + ((w.length : Int) - n)) % w.length = p - n := by
   rw [show p + ((w.length : Int) - n) = (p - n) + w.length by omega, Int.add_emod_right]
   exact Int.emod_eq_of_lt (by omega) (by omega)
  rw [e, show p.toNat - (w.length - ((w.length : Int) - n).toNat) = (p - n).toNat by omega]
theorem blkE_turn {steps t i τ j : Int} (s1 : 1 <= steps) (τ0 : 0 <= τ) (τ1 : τ < steps) : ∀ m : Nat, c.blkE steps t i ((τ + (steps - 1)) % steps) j m = c.blkE steps ((t + 1) % steps) i τ j m
 | 0 => rfl
 | m + 1 => by
  have ih := blkE_turn s1 τ0 τ1 (t := t) (i := i) (j := j) m
  have hiff : (t + (m : Int)) % steps = (τ + (steps - 1)) % steps ↔ ((t + 1) % steps + (m : Int)) % steps = τ := by
   rw [Int.emod_add_emod]
   constructor
   ·intro e
    have h2 : (t + (m : Int) + 1) % steps = (τ + (steps - 1) + 1) % steps := by rw [Int.add_emod, e, <- Int.add_emod]
    rw [show t + 1 + (m : Int) = t + m + 1 by omega, h2, show τ + (steps - 1) + 1 = τ + steps by omega, Int.add_emod_right]
    exact Int.emod_eq_of_lt τ0 τ1
   ·intro e
    have h2 : (t + 1 + (m : Int) + (steps - 1)) % steps = (τ + (steps - 1)) % steps := by
     rw [Int.add_emod, e, Int.add_emod_emod]
    rw [<- h2, show t + 1 + (m : Int) + (steps - 1) = t + m + steps by omega, Int.add_emod_right]
  rw [blkE, blkE, ih]
  by_cases e : (t + (m : Int)) % steps = (τ + (steps - 1)) % steps
  ·rw [if_pos e, if_pos (hiff.1 e)]
  ·rw [if_neg e, if_neg (fun hh => e (hiff.2 hh))]
theorem turn_span (hOk : c.Ok) {steps : Int} (s1 : 1 <= steps) {w : List Int} (hl : (w.length : Int) = c.n * steps) (hv : La.Span (km hOk.fld (c.blkL steps steps)) (c.blkL steps steps).length (kv hOk.fld w)) :
  La.Span (km hOk.fld (c.blkL steps steps)) (c.blkL steps steps).length (kv hOk.fld (movW w c.n)) := by
 have hk := hOk.kn
 have hN1 : c.n * 1 <= c.n * steps := Int.mul_le_mul_of_nonneg_left s1 (by omega)
 have hks := Int.mul_nonneg (show 0 <= steps by omega) (show 0 <= c.k by omega)
 have hlen : (c.blkL steps steps).length = (steps * c.k).toNat := by unfold blkL; exact A_m _ _
 let N : Nat := w.length
 have key : La.Span (km hOk.fld (c.blkL steps steps)) (c.blkL steps steps).length (fun p => if p < N then kv hOk.fld w (((p : Int) + (w.length - c.n)) % w.length).toNat else 0) := by
  refine La.Span.ind (Φ := fun u => La.Span (km hOk.fld (c.blkL steps steps)) (c.blkL steps steps).length (fun p => if p < N then u (((p : Int) + (w.length - c.n)) % w.length).toNat else 0)) ?_ ?_ ?_ (m := (c.blkL steps steps).length) (fun z hz => ?_) _ hv
  ·exact La.Span.zero.congr fun p => by split <;> rfl
  ·intro u v hu hv
   exact (hu.add hv).congr fun p => by
    by_cases hp : p < N
    ·rw [if_pos hp, if_pos hp, if_pos hp]
    ·rw [if_neg hp, if_neg hp, if_neg hp, Fi.add_zero]
  ·intro a u hu
   exact (hu.smul a).congr fun p => by
    by_cases hp : p < N
    ·rw [if_pos hp, if_pos hp]
    ·rw [if_neg hp, if_neg hp, Fi.mul_zero]
  ·have hz2 : (z : Int) < c.k * steps := by rw [Int.mul_comm]; omega
   have hs := pl_split (p := (z : Int)) (len := steps) hk.1 (by omega) hz2
   have e1 : (z : Int) = (z : Int) / c.k * c.k + (z : Int) % c.k := hs.2.2.2.2
   have t0 := Int.emod_nonneg ((z : Int) / c.k + 1) (show steps ≠ 0 by omega)
   have t1 := Int.emod_lt_of_pos ((z : Int) / c.k + 1) (show 0 < steps by omega)
   have hr := pl_rng (n := c.k) (len := steps) t0 t1 hs.2.2.1 hs.2.2.2.1
   have hrow1 := ix_blkL (c := c) hk.1 steps steps hs.1 hs.2.1 hs.2.2.1 hs.2.2.2.1
   rw [<- e1] at hrow1
   have hrow2 := ix_blkL (c := c) hk.1 steps steps t0 t1 hs.2.2.1 hs.2.2.2.1
   refine (La.Span.mem (i := (((z : Int) / c.k + 1) % steps * c.k + (z : Int) % c.k).toNat) (by rw [hlen]; rw [Int.mul_comm c.k] at hr; omega)).congr fun p => ?_
   rw [km_ix, show (((((z : Int) / c.k + 1) % steps * c.k + (z : Int) % c.k).toNat : Nat) : Int) = ((z : Int) / c.k + 1) % steps * c.k + (z : Int) % c.k by omega, hrow2]
   by_cases hp : p < N
   ·have hp2 : (p : Int) < c.n * steps := by rw [<- hl]; show (p : Int) < (N : Int); omega
    have hsp := pl_split (len := steps) (show 1 <= c.n by omega) (show 0 <= (p : Int) by omega) hp2
    have hq0 := Int.emod_nonneg ((p : Int) / c.n + (steps - 1)) (show steps ≠ 0 by omega)
    have hq1 := Int.emod_lt_of_pos ((p : Int) / c.n + (steps - 1)) (show 0 < steps by omega)
    have hat : ((p : Int) + (w.length - c.n)) % w.length = ((p : Int) / c.n + (steps - 1)) % steps * c.n + (p : Int) % c.n := by
     have hrr := pl_rng (n := c.n) (len := steps) hq0 hq1 hsp.2.2.1 hsp.2.2.2.1
     have hdm := Int.mul_ediv_add_emod ((p : Int) / c.n + (steps - 1)) steps
     have e2 : (p : Int) + (w.length - c.n) = ((p : Int) / c.n + (steps - 1)) % steps * c.n + (p : Int) % c.n + (w.length : Int) * (((p : Int) / c.n + (steps - 1)) / steps) := by
      have e3 : (p : Int) + (c.n * steps - c.n) = ((p : Int) / c.n + (steps - 1)) * c.n + (p : Int) % c.n := by
       rw [Int.add_mul, Int.sub_mul, Int.one_mul, Int.mul_comm steps]
       have := hsp.2.2.2.2
       omega
      rw [hl, e3]
      conv => lhs; rw [<- hdm]
      rw [Int.add_mul, Int.mul_assoc, Int.mul_comm _ c.n, <- Int.mul_assoc, Int.mul_comm steps c.n]
      omega
     rw [e2, Int.add_mul_emod_self_left, hl]
     exact Int.emod_eq_of_lt hrr.1 hrr.2
    have hrr := pl_rng (n := c.n) (len := steps) hq0 hq1 hsp.2.2.1 hsp.2.2.2.1
    have hdd := pl_div (τ := ((p : Int) / c.n + (steps - 1)) % steps) hsp.2.2.1 hsp.2.2.2.1
    rw [if_pos hp, hat, km_ix, hrow1, show (((((p : Int) / c.n + (steps - 1)) % steps * c.n + (p : Int) % c.n).toNat : Nat) : Int) = ((p : Int) / c.n + (steps - 1)) % steps * c.n + (p : Int) % c.n by omega]
    unfold blkR
    rw [ix_mapR 0 _ (by omega) hp2, ix_mapR 0 _ hrr.1 hrr.2, hdd.1, hdd.2, if_neg (by omega), blkE_turn s1 hsp.1 hsp.2.1]
   ·rw [if_neg hp]
    have : ix 0 (c.blkR steps (((z : Int) / c.k + 1) % steps) ((z : Int) % c.k) (c.deg ((z : Int) % c.k) + 1) 0) p = 0 := ix_ge _ (by rw [length_blkR]; have : (N : Int) = c.n * steps := hl; omega)
    rw [this, ke_zero]
 refine key.congr fun p => ?_
 by_cases hp : p < N
 ·have hp2 : (p : Int) < w.length := by show (p : Int) < (N : Int); omega
  have hw0 := Int.emod_nonneg ((p : Int) + (w.length - c.n)) (show (w.length : Int) ≠ 0 by omega)
  rw [if_pos hp, kv_ix hOk.fld (movW w c.n), ix_movW (by omega) (by omega) (by omega) hp2, kv_ix, show ((((p : Int) + (w.length - c.n)) % w.length).toNat : Int) = ((p : Int) + (w.length - c.n)) % w.length by omega]
 ·have : ix 0 (movW w c.n) p = 0 := ix_ge _ (by rw [length_movW]; show (N : Int) <= p; omega)
  rw [if_neg hp, kv_ix hOk.fld (movW w c.n), this, ke_zero]
theorem sm_spl {K : Type} [Fi K] (g : Nat -> K) (a : Nat) : ∀ b : Nat, La.sm g (a + b) = La.sm g a + La.sm (fun i => g (a + i)) b
 | 0 => by show La.sm g a = La.sm g a + 0; rw [Fi.add_zero]
 | b + 1 => by
  show La.sm g (a + b) + g (a + b) = La.sm g a + (La.sm (fun i => g (a + i)) b + g (a + b))
  rw [sm_spl g a b, Fi.add_assoc]
theorem sm_dbl {K : Type} [Fi K] (g : Nat -> Nat -> K) {k : Nat} (hk : 0 < k) : ∀ S : Nat, La.sm (fun z => g (z / k) (z % k)) (S * k) = La.sm (fun t => La.sm (fun i => g t i) k) S
 | 0 => by rw [Nat.zero_mul]; rfl
 | S + 1 => by
  rw [Nat.add_mul, Nat.one_mul, sm_spl, sm_dbl g hk S]
  show _ = La.sm (fun t => La.sm (fun i => g t i) k) S + La.sm (fun i => g S i) k
  congr 1
  refine La.sm_congr fun i hi => ?_
  rw [show (S * k + i) / k = S by rw [Nat.mul_comm, Nat.mul_add_div hk, Nat.div_eq_of_lt hi, Nat.add_zero], show (S * k + i) % k = i by rw [Nat.mul_comm, Nat.mul_add_mod, Nat.mod_eq_of_lt hi]]
theorem conv_sum {K : Type} [Fi K] (g u : Int -> K) {S : Nat} {τ : Int} (hz : ∀ t : Int, (S : Int) <= t -> u t = 0) : ∀ N : Nat, (N : Int) <= τ + 1 ->
  La.sm (fun d => g (d : Nat) * u (τ - (d : Nat))) N = La.sm (fun t => if τ - (N : Int) < ((t : Nat) : Int) /\ ((t : Nat) : Int) <= τ then g (τ - (t : Nat)) * u (t : Nat) else 0) S
 | 0, _ => by
  refine (La.sm_zero fun t ht => ?_).symm
  rw [if_neg (by omega)]
 | N + 1, hN => by
  show La.sm (fun d => g (d : Nat) * u (τ - (d : Nat))) N + g (N : Nat) * u (τ - (N : Nat)) = _
  rw [conv_sum g u hz N (by omega)]
  have hsp : ∀ t : Nat, (if τ - ((N + 1 : Nat) : Int) < (t : Int) /\ (t : Int) <= τ then g (τ - (t : Nat)) * u (t : Nat) else 0) = (if τ - (N : Int) < (t : Int) /\ (t : Int) <= τ then g (τ - (t : Nat)) * u (t : Nat) else 0) + (if (t : Int) = τ - (N : Int) then g (N : Nat) * u (τ - (N : Nat)) else 0) := fun t => by
   by_cases e : (t : Int) = τ - (N : Int)
   ·rw [if_pos (by omega), if_neg (by omega), if_pos e, Fi.zero_add, e, show τ - (τ - (N : Int)) = N by omega]
   ·rw [if_neg e, Fi.add_zero]
    by_cases e2 : τ - (N : Int) < (t : Int) /\ (t : Int) <= τ
    ·rw [if_pos e2, if_pos (by omega)]
    ·rw [if_neg e2, if_neg (by omega)]
  rw [La.sm_congr (g := fun t => if τ - ((N + 1 : Nat) : Int) < ((t : Nat) : Int) /\ ((t : Nat) : Int) <= τ then g (τ - (t : Nat)) * u (t : Nat) else 0) fun t _ => hsp t, La.sm_add]
  congr 1
  by_cases hS : τ - (N : Int) < S
  ·rw [La.sm_one (k := (τ - (N : Int)).toNat) (by omega) (fun t ht hne => if_neg (by omega)), if_pos (by omega)]
  ·rw [hz _ (by omega), Fi.mul_zero]
   exact (La.sm_zero fun t ht => if_neg (by omega)).symm
theorem ke_accG (h : FOk c.F) {us : List (List Int)} {b : Int} {g : List Int} {a τ : Int} : ∀ N : Nat, (N : Int) <= τ + 1 ->
  ke h (accF c.F b g (back us a τ) N) = ke h b + La.sm (fun d => ke h (ix 0 g (d : Nat)) * ke h (ix 0 (ix [] us (τ - (d : Nat))) a)) N
 | 0, _ => by show ke h b = ke h b + 0; rw [Fi.add_zero]
 | N + 1, hN => by
  have ih := ke_accG h (us := us) (b := b) (g := g) (a := a) (τ := τ) N (by omega)
  have e0 : accF c.F b g (back us a τ) (N + 1) = addF c.F (accF c.F b g (back us a τ) N) (mulF c.F (ix 0 g N) (ix 0 (back us a τ) N)) := rfl
  rw [e0, ke_add, ke_mul, ix_back us (i := a) (t := τ) (d := (N : Int)) (by omega) (by omega), ih]
  show _ = ke h b + (La.sm _ N + ke h (ix 0 g (N : Nat)) * ke h (ix 0 (ix [] us (τ - (N : Nat))) a))
  rw [Fi.add_assoc]
theorem ke_refS (hOk : c.Ok) {us : List (List Int)} {τ j : Int} {S : Nat} (τ0 : 0 <= τ) (j0 : 0 <= j) (j1 : j < c.n) (hz : ∀ t i : Int, (S : Int) <= t -> ix 0 (ix [] us t) i = 0) : ∀ m : Nat, m <= c.Gen.length ->
  ke hOk.fld (c.refTo us τ j m) = La.sm (fun i => La.sm (fun t => ke hOk.fld (ix 0 (ix [] us (t : Nat)) (i : Nat)) * (if (t : Int) <= τ /\ τ - (t : Int) < ((c.deg (i : Nat) + 1).toNat : Int) then ke hOk.fld (c.co (i : Nat) j (τ - (t : Nat))) else 0)) S) m
 | 0, _ => ke_zero hOk.fld
 | m + 1, hm => by
  have ih := ke_refS hOk τ0 j0 j1 hz m (by omega)
  have e0 := c.refTo_succ us τ j (i := (m : Int)) (by omega)
  rw [show ((m : Int) + 1).toNat = m + 1 by omega, show ((m : Int)).toNat = m by omega] at e0
  rw [e0, ke_accG hOk.fld _ (by omega), ih]
  show _ = La.sm _ m + La.sm _ S
  congr 1
  rw [conv_sum (fun d => ke hOk.fld (ix 0 (ix [] (ix [] c.Gen (m : Int)) j) d)) (fun t => ke hOk.fld (ix 0 (ix [] us t) (m : Int))) (S := S) (τ := τ) (fun t ht => by show ke hOk.fld _ = 0; rw [hz t _ ht, ke_zero]) _ (by omega)]
  refine La.sm_congr fun t _ => ?_
  have hdn := c.deg_nonneg (m : Int)
  by_cases e : (t : Int) <= τ
  ·by_cases e2 : τ - (t : Int) < ((ix [] (ix [] c.Gen (m : Int)) j).length : Int)
   ·rw [if_pos (by omega)]
    by_cases e3 : τ - (t : Int) < ((c.deg (m : Int) + 1).toNat : Int)
    ·rw [if_pos ⟨e, e3⟩]; exact Fi.mul_comm _ _
    ·rw [if_neg (fun hh => e3 hh.2), Fi.mul_zero]
     have : ix 0 (ix [] (ix [] c.Gen (m : Int)) j) (τ - (t : Int)) = 0 := co_deg hOk (by omega) (by omega) j0 j1 (by omega)
     rw [this, ke_zero, Fi.zero_mul]
   ·rw [if_neg (by omega)]
    have h0 : c.co (m : Int) j (τ - (t : Int)) = 0 := co_len (by omega)
    rw [h0, ke_zero, ite_self, Fi.mul_zero]
  ·rw [if_neg (fun hh => e hh.2), if_neg (fun hh => e hh.1), Fi.mul_zero]
theorem term_span (hOk : c.Ok) {us : List (List Int)} {len : Int} (hlen : len = us.length + c.mem) :
  La.Span (km hOk.fld (c.blkL us.length len)) (c.blkL us.length len).length (kv hOk.fld (fltTo (c.refL (c.term us)) (c.refL (c.term us)).length)) := by
 have hk := hOk.kn
 have hmn : 0 <= c.mem := c.maxD_nonneg c.Gen.length
 have hgk : c.k = (c.Gen.length : Int) := rfl
 have hL : ((c.refL (c.term us)).length : Int) = len := by unfold refL; rw [A_m]; unfold term; rw [length_termTo]; omega
 have hlb : (c.blkL us.length len).length = us.length * c.Gen.length := by
  unfold blkL; rw [A_m, hgk]
  exact Int.toNat_natCast (us.length * c.Gen.length)
 have hrow : ∀ z : Int, 0 <= z -> z < ((c.refL (c.term us)).length : Int) -> ((ix [] (c.refL (c.term us)) z).length : Int) = c.n := fun z z0 z1 => by
  have z2 : z < ((c.term us).length : Int) := by unfold refL at z1; rw [A_m] at z1; omega
  unfold refL
  rw [ix_mapR [] _ z0 z2]
  unfold refR
  rw [A_m]; omega
 have hfl := fltTo_len (X := c.refL (c.term us)) (n := c.n) (by omega) hrow
 have hkm : ∀ t i p : Nat, t < us.length -> i < c.Gen.length -> km hOk.fld (c.blkL us.length len) (t * c.Gen.length + i) p = ke hOk.fld (ix 0 (c.blkR len t i (c.deg i + 1) 0) p) := fun t i p ht hi => by
  have hr := ix_blkL (c := c) hk.1 us.length len (t := (t : Int)) (i := (i : Int)) (by omega) (by omega) (by omega) (by omega)
  rw [km_ix, show ((t * c.Gen.length + i : Nat) : Int) = (t : Int) * c.k + i by rw [hgk]; push_cast; rfl, hr]
 have hdm : ∀ z : Nat, z < us.length * c.Gen.length -> z / c.Gen.length < us.length /\ z % c.Gen.length < c.Gen.length /\ z = z / c.Gen.length * c.Gen.length + z % c.Gen.length := fun z hz => by
  refine ⟨Nat.div_lt_of_lt_mul (by rw [Nat.mul_comm]; exact hz), Nat.mod_lt _ (by omega), ?_⟩
  have := Nat.div_add_mod z c.Gen.length
  rw [Nat.mul_comm] at this
  exact this.symm
 refine ⟨fun z => ke hOk.fld (ix 0 (ix [] us ((z / c.Gen.length : Nat) : Int)) ((z % c.Gen.length : Nat) : Int)), funext fun p => ?_⟩
 rw [kv_ix]
 show _ = La.sm (fun z => ke hOk.fld (ix 0 (ix [] us ((z / c.Gen.length : Nat) : Int)) ((z % c.Gen.length : Nat) : Int)) * km hOk.fld (c.blkL us.length len) z p) (c.blkL us.length len).length
 rw [hlb]
 by_cases hp : (p : Int) < c.n * len
 ·rw [ix_fltTo (n := c.n) (by omega) hrow (by omega) (by rw [hL]; exact hp)]
  have hs := pl_split (len := len) (show 1 <= c.n by omega) (show 0 <= (p : Int) by omega) hp
  have z2 : (p : Int) / c.n < ((c.term us).length : Int) := by unfold term; rw [length_termTo]; omega
  have hz : ∀ t i : Int, (us.length : Int) <= t -> ix 0 (ix [] (c.term us) t) i = 0 := fun t i ht => by
   by_cases h2 : t < us.length + c.mem.toNat
   ·exact ix_term_tail (c := c) us (d := c.mem) (by omega) h2
   ·have : ix [] (c.term us) t = [] := by
     unfold term termTo ix; simp only [List.getD]; rw [List.getElem?_eq_none (by rw [List.length_append, List.length_replicate]; omega)]; rfl
    rw [this]; exact ix_nilI _
  have hus : ∀ t i : Nat, t < us.length -> ix 0 (ix [] (c.term us) (t : Nat)) (i : Nat) = ix 0 (ix [] us (t : Nat)) (i : Nat) := fun t i ht => by
   unfold term termTo; rw [ix_apg [] (by omega) (by omega)]
  rw [show ix 0 (ix [] (c.refL (c.term us)) ((p : Int) / c.n)) ((p : Int) % c.n) = c.refTo (c.term us) ((p : Int) / c.n) ((p : Int) % c.n) c.Gen.length by
   unfold refL; rw [ix_mapR [] _ hs.1 z2]; unfold refR; rw [ix_mapR 0 _ hs.2.2.1 hs.2.2.2.1], ke_refS hOk (S := us.length) hs.1 hs.2.2.1 hs.2.2.2.1 hz _ (Nat.le_refl _)]
  have hB : ∀ t i : Nat, t < us.length -> i < c.Gen.length -> ke hOk.fld (ix 0 (c.blkR len t i (c.deg i + 1) 0) p) = if (t : Int) <= (p : Int) / c.n /\ (p : Int) / c.n - (t : Int) < ((c.deg (i : Nat) + 1).toNat : Int) then ke hOk.fld (c.co (i : Nat) ((p : Int) % c.n) ((p : Int) / c.n - (t : Nat))) else 0 := fun t i ht hi => by
   have hdn := c.deg_nonneg (i : Int)
   have hdm2 := deg_le_mem (c := c) (i := (i : Int)) (by omega) (by omega)
   unfold blkR
   rw [ix_mapR 0 _ (by omega) hp, if_neg (by omega), ke_blkE hOk.fld (by omega) hs.2.1 _ (by omega)]
  have e1 := sm_dbl (fun t i => ke hOk.fld (ix 0 (ix [] us ((t : Nat) : Int)) ((i : Nat) : Int)) * ke hOk.fld (ix 0 (c.blkR len (t : Nat) (i : Nat) (c.deg (i : Nat) + 1) 0) p)) (k := c.Gen.length) (by omega) us.length
  rw [La.sm_congr (n := us.length * c.Gen.length) (h := fun z => (fun t i => ke hOk.fld (ix 0 (ix [] us ((t : Nat) : Int)) ((i : Nat) : Int)) * ke hOk.fld (ix 0 (c.blkR len (t : Nat) (i : Nat) (c.deg (i : Nat) + 1) 0) p)) (z / c.Gen.length) (z % c.Gen.length)) fun z hz2 => ?_, e1, La.sm_swap]
  ·refine La.sm_congr fun t ht => La.sm_congr fun i hi => ?_
   show _ * (if _ then _ else _) = _
   rw [hus t i ht, hB t i ht hi]
  ·have hd := hdm z hz2
   show ke hOk.fld (ix 0 (ix [] us ((z / c.Gen.length : Nat) : Int)) ((z % c.Gen.length : Nat) : Int)) * km hOk.fld (c.blkL us.length len) z p = _
   conv => lhs; rw [show km hOk.fld (c.blkL us.length len) z p = km hOk.fld (c.blkL us.length len) (z / c.Gen.length * c.Gen.length + z % c.Gen.length) p by rw [<- hd.2.2]]
   rw [hkm _ _ _ hd.1 hd.2.1]
 ·have : ix 0 (fltTo (c.refL (c.term us)) (c.refL (c.term us)).length) p = 0 := ix_ge _ (by rw [hfl, hL]; omega)
  rw [this, ke_zero]
  refine (La.sm_zero fun z hz => ?_).symm
  have hd := hdm z hz
  have h0 : ix 0 (c.blkR len ((z / c.Gen.length : Nat) : Int) ((z % c.Gen.length : Nat) : Int) (c.deg ((z % c.Gen.length : Nat) : Int) + 1) 0) p = 0 := ix_ge _ (by rw [length_blkR]; omega)
  show _ * km hOk.fld (c.blkL us.length len) z p = 0
  rw [show km hOk.fld (c.blkL us.length len) z p = km hOk.fld (c.blkL us.length len) (z / c.Gen.length * c.Gen.length + z % c.Gen.length) p by rw [<- hd.2.2], hkm _ _ _ hd.1 hd.2.1, h0, ke_zero, Fi.mul_zero]
theorem turn_has (hOk : c.Ok) {S : Int} (s1 : 1 <= S) (hl : c.n * S <= 64) {b : Cod} (hb : b = c.tC S S) {x : List Int} (hx : b.Gen.length <= x.length) :
  ((comb b.F x b.Gen b.N).length : Int) = c.n * S /\ wrdE b (movW (comb b.F x b.Gen b.N) c.n) = 0 /\ restC b (movW (comb b.F x b.Gen b.N) c.n) b.Gen.length = List.replicate b.N.toNat 0 := by
 subst hb
 have hk := tC_ok hOk (steps := S) (len := S) s1 hl
 have hkn := hOk.kn
 have hg := hk.good
 have hN : (c.tC S S).N = c.n * S := rfl
 have h1 : 1 * 1 <= c.n * S := Int.mul_le_mul (by omega) s1 (by omega) (by omega)
 have hlw : ((comb (c.tC S S).F x (c.tC S S).Gen (c.tC S S).N).length : Int) = c.n * S := by rw [length_comb, hN]; omega
 have ho : ¬ outF c.F (comb (c.tC S S).F x (c.tC S S).Gen (c.tC S S).N) := comb_out hOk.fld.1 _ _ _
 have hs : La.Span (km hOk.fld (c.tC S S).Gen) (c.tC S S).Gen.length (kv hOk.fld (comb (c.tC S S).F x (c.tC S S).Gen (c.tC S S).N)) := by
  have e := kv_comb hOk.fld (x := x) (rows := (c.tC S S).Gen) (cols := (c.tC S S).N) (fun l hl' => by have := (hg l hl').1; omega) hx
  show La.Span _ _ (kv hOk.fld (comb c.F x (c.tC S S).Gen (c.tC S S).N))
  rw [e]
  exact ⟨_, rfl⟩
 have h2 := gen_of hOk.fld (blkL_good (c := c) hOk.fld.1 S S) (N := c.n * S) hs
 have h3 := turn_span hOk s1 hlw h2
 have h4 := gen_in hOk.fld (blkL_good (c := c) hOk.fld.1 S S) (N := c.n * S) h3
 have l3 : ((movW (comb (c.tC S S).F x (c.tC S S).Gen (c.tC S S).N) c.n).length : Int) = (c.tC S S).N := by rw [length_movW, hN]; exact hlw
 exact ⟨hlw, wrdE_zero.2 ⟨hk, l3, movW_out ho _⟩, span_rest hk l3 (movW_out ho _) h4⟩
theorem term_has (hOk : c.Ok) {us : List (List Int)} (s1 : 1 <= us.length) (hl : c.n * (us.length + c.mem) <= 64) {a : Cod} (ha : a = c.tC us.length (us.length + c.mem)) {k : Nat} (hk : k = (c.refL (c.term us)).length) :
  wrdE a (fltTo (c.refL (c.term us)) k) = 0 /\ restC a (fltTo (c.refL (c.term us)) k) a.Gen.length = List.replicate a.N.toNat 0 := by
 subst ha
 subst hk
 have hmn : 0 <= c.mem := c.maxD_nonneg c.Gen.length
 have hkn := hOk.kn
 have hk := tC_ok hOk (steps := (us.length : Int)) (len := us.length + c.mem) (by omega) hl
 have hL : ((c.refL (c.term us)).length : Int) = us.length + c.mem := by unfold refL; rw [A_m]; unfold term; rw [length_termTo]; omega
 have hrow : ∀ z : Int, 0 <= z -> z < ((c.refL (c.term us)).length : Int) -> ((ix [] (c.refL (c.term us)) z).length : Int) = c.n := fun z z0 z1 => by
  have z2 : z < ((c.term us).length : Int) := by unfold refL at z1; rw [A_m] at z1; omega
  unfold refL
  rw [ix_mapR [] _ z0 z2]
  unfold refR
  rw [A_m]; omega
 have hfl := fltTo_len (X := c.refL (c.term us)) (n := c.n) (by omega) hrow
 have l3 : ((fltTo (c.refL (c.term us)) (c.refL (c.term us)).length).length : Int) = (c.tC us.length (us.length + c.mem)).N := by rw [hfl, hL]; rfl
 have ho : ¬ outF c.F (fltTo (c.refL (c.term us)) (c.refL (c.term us)).length) := by
  rintro ⟨v, hv, hne⟩
  obtain ⟨z, z0, z1, rfl⟩ := mem_ix 0 hv
  apply hne
  rw [hfl] at z1
  rw [ix_fltTo (n := c.n) (by omega) hrow z0 z1]
  have hs := pl_split (len := ((c.refL (c.term us)).length : Int)) (show 1 <= c.n by omega) z0 z1
  have z2 : z / c.n < ((c.term us).length : Int) := by have := hs.2.1; unfold refL at this; rw [A_m] at this; omega
  unfold refL
  rw [ix_mapR [] _ hs.1 z2]
  unfold refR
  rw [ix_mapR 0 _ hs.2.2.1 hs.2.2.2.1]
  exact refTo_lt hOk.fld.1 _ _ _ _
 have h4 := gen_in hOk.fld (blkL_good (c := c) hOk.fld.1 us.length (us.length + c.mem)) (N := c.n * (us.length + c.mem)) (term_span hOk (us := us) rfl)
 exact ⟨wrdE_zero.2 ⟨hk, l3, ho⟩, span_rest hk l3 ho h4⟩
end Cnv
end Go.Cw
