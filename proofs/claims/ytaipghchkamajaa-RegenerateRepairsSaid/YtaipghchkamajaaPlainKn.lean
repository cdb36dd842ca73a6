/-
  Plain facts.
-/
import Derived.Test.YtaipghchkamajaaPlainSl
set_option linter.unusedVariables false
set_option linter.unusedSimpArgs false
set_option linter.unusedSectionVars false
namespace Go.Cw
/-- The columns below c that are no pivots. -/
def frC (P : List Int) : Nat → List Nat
  | 0 => []
  | c + 1 => if (c : Int) ∈ P then frC P c else frC P c ++ [c]
theorem frC_mem {P : List Int} {x : Nat} : ∀ {c : Nat}, x ∈ frC P c → x < c ∧ (x : Int) ∉ P
  | 0, h => by cases h
  | c + 1, h => by
    unfold frC at h
    split at h
    · have := frC_mem h; exact ⟨by omega, this.2⟩
    · rename_i hc
      rcases List.mem_append.1 h with h | h
      · have := frC_mem h; exact ⟨by omega, this.2⟩
      · rw [List.mem_singleton] at h; subst h; exact ⟨by omega, hc⟩
theorem frC_nodup (P : List Int) : ∀ c, (frC P c).Nodup
  | 0 => List.nodup_nil
  | c + 1 => by
    unfold frC
    split
    · exact frC_nodup P c
    · refine List.nodup_append.2 ⟨frC_nodup P c, by simp, fun x hx y hy => ?_⟩
      rw [List.mem_singleton] at hy
      have := frC_mem hx
      omega
theorem kerL_map (f : Fld) (R : List (List Int)) (P : List Int) (cols : Int) : ∀ c, kerL f R P cols c = (frC P c).map fun x : Nat => kerTo f R P cols (x : Int) P.length
  | 0 => rfl
  | c + 1 => by
    unfold frC
    rw [kerL, kerL_map f R P cols c]
    split
    · rfl
    · simp
theorem cnt_succ (c : Int) : ∀ P : List Int, (P.filter fun p => decide (p < c + 1)).length = (P.filter fun p => decide (p < c)).length + (P.filter fun p => decide (p = c)).length
  | [] => rfl
  | p :: P => by
    have ih := cnt_succ c P
    simp only [List.filter_cons]
    by_cases h1 : p < c
    · rw [if_pos (by simp; omega), if_pos (by simpa using h1), if_neg (by simp; omega)]
      simp only [List.length_cons]; omega
    · by_cases h3 : p = c
      · rw [if_pos (by simp; omega), if_neg (by simpa using h1), if_pos (by simpa using h3)]
        simp only [List.length_cons]; omega
      · rw [if_neg (by simp; omega), if_neg (by simpa using h1), if_neg (by simpa using h3)]
        exact ih
theorem cnt_one (c : Int) : ∀ {P : List Int}, P.Nodup → (P.filter fun p => decide (p = c)).length = if c ∈ P then 1 else 0
  | [], _ => rfl
  | p :: P, h => by
    obtain ⟨h1, h2⟩ := List.nodup_cons.1 h
    have ih := cnt_one c h2
    rw [List.filter_cons]
    by_cases e : p = c
    · subst e
      rw [if_neg h1] at ih
      simp [ih]
    · rw [if_neg (by simpa using e), ih]
      have : (c ∈ p :: P) ↔ c ∈ P := by simp [Ne.symm e]
      by_cases hc : c ∈ P
      · rw [if_pos hc, if_pos (this.2 hc)]
      · rw [if_neg hc, if_neg (fun h => hc (this.1 h))]
theorem frC_len {P : List Int} (hP : P.Nodup) (h0 : ∀ p ∈ P, 0 ≤ p) : ∀ c : Nat, (frC P c).length + (P.filter fun p => decide (p < (c : Int))).length = c
  | 0 => by
    have : (P.filter fun p => decide (p < ((0 : Nat) : Int))) = [] := List.filter_eq_nil_iff.2 fun p hp => by have := h0 p hp; simp; omega
    rw [this]; rfl
  | c + 1 => by
    have ih := frC_len hP h0 c
    have h1 := cnt_succ (c : Int) P
    have h2 := cnt_one (c : Int) hP
    rw [show (((c + 1 : Nat) : Nat) : Int) = (c : Int) + 1 by omega, h1, h2]
    unfold frC
    split
    · omega
    · simp only [List.length_append, List.length_cons, List.length_nil]; omega
section
variable {f : Fld} {n : Nat} {X : List (List Int)}
theorem piv_nodup (h : FOk f) (hX : good f n X) : (elim f X [] n).piv.Nodup := by
  rw [List.Nodup, List.pairwise_iff_getElem]
  intro i j hi hj hij
  have := piv_inc (n := n) h hX (i := (i : Int)) (j := (j : Int)) (by omega) (by omega) (by omega)
  rw [ix_nat, ix_nat, List.getD_eq_getElem?_getD, List.getD_eq_getElem?_getD, List.getElem?_eq_getElem hi, List.getElem?_eq_getElem hj] at this
  simp only [Option.getD_some] at this
  omega
theorem kerX_len (h : FOk f) (hX : good f n X) : (kerX f X n).length + (elim f X [] n).piv.length = n := by
  have hr := piv_rng f X [] n
  have := frC_len (piv_nodup h hX) (fun p hp => (hr p hp).1) n
  have hall : ((elim f X [] n).piv.filter fun p => decide (p < (n : Int))) = (elim f X [] n).piv := List.filter_eq_self.2 fun p hp => by have := hr p hp; simpa using this.2
  rw [hall] at this
  show (kerL f _ _ _ _).length + _ = _
  rw [kerL_map, List.length_map]
  exact this
/-- Where a word of the kernel is not zero. -/
theorem kerTo_supp {R : List (List Int)} {P : List Int} {cols c : Int} (c0 : 0 ≤ c) (hp : ∀ p ∈ P, 0 ≤ p) : ∀ (k : Nat) (j : Int), k ≤ P.length → 0 ≤ j → ix 0 (kerTo f R P cols c k) j ≠ 0 → j = c ∨ ∃ i : Int, 0 ≤ i ∧ i < k ∧ ix 0 P i = j
  | 0, j, _, j0, hne => by
    by_cases e : j = c
    · exact .inl e
    · exfalso; apply hne
      show ix 0 ((List.replicate cols.toNat (0 : Int)).set c.toNat 1) j = 0
      simp only [ix, List.getD]
      rw [List.getElem?_set_ne (by omega), List.getElem?_replicate]
      split <;> rfl
  | k + 1, j, hk, j0, hne => by
    have h0 := hp _ (ix_mem 0 P (i := (k : Int)) (by omega) (by omega))
    by_cases e : ix 0 P k = j
    · exact .inr ⟨k, by omega, by omega, e⟩
    · have : ix 0 (kerTo f R P cols c (k + 1)) j = ix 0 (kerTo f R P cols c k) j := by
        show ix 0 ((kerTo f R P cols c k).set (ix 0 P k).toNat _) j = _
        simp only [ix, List.getD]
        rw [List.getElem?_set_ne]
        intro e2
        apply e
        simp only [ix, List.getD] at h0 ⊢
        omega
      rw [this] at hne
      rcases kerTo_supp c0 hp k j (by omega) j0 hne with h1 | ⟨i, i0, i1, i2⟩
      · exact .inl h1
      · exact .inr ⟨i, i0, by omega, i2⟩
theorem kerTo_one {R : List (List Int)} {P : List Int} {cols c : Int} (c0 : 0 ≤ c) (c1 : c < cols) (hp : ∀ p ∈ P, 0 ≤ p) (hc : c ∉ P) : ∀ (k : Nat), k ≤ P.length → ix 0 (kerTo f R P cols c k) c = 1
  | 0, _ => by
    show ix 0 ((List.replicate cols.toNat (0 : Int)).set c.toNat 1) c = 1
    rw [ix_setE 0 _ _ c0 (by simp; omega) c0, if_pos rfl]
  | k + 1, hk => by
    have hm := ix_mem 0 P (i := (k : Int)) (by omega) (by omega)
    have h0 := hp _ hm
    rw [← kerTo_one c0 c1 hp hc k (by omega)]
    show ix 0 ((kerTo f R P cols c k).set (ix 0 P k).toNat _) c = _
    simp only [ix, List.getD]
    rw [List.getElem?_set_ne]
    intro e2
    apply hc
    have : ix 0 P k = c := by simp only [ix, List.getD] at h0 ⊢; omega
    rw [← this]; exact hm
/-- The words of the kernel are orthogonal to the rows. -/
theorem ker_orth (h : FOk f) (hX : good f n X) {v : Nat → KF f h} (hv : La.Span (km h X) X.length v) {c : Nat} (hc : c < n) (hcP : (c : Int) ∉ (elim f X [] n).piv) :
    La.sm (fun j => v j * kv h (kerTo f (canR (elim f X [] n)) (elim f X [] n).piv n c (elim f X [] n).piv.length) j) n = 0 := by
  have rr := elim_rref h hX (wide_nil 0) (.inl rfl) n
  have s1 := elim_span h hX n
  have hv2 : La.Span (km h (elim f X [] n).X) X.length v := hv.trans s1.2
  have hpr := piv_rng f X [] n
  have hpv : ∀ i : Nat, i < (elim f X [] n).piv.length → ((pvN (elim f X [] n).piv i : Nat) : Int) = ix 0 (elim f X [] n).piv i := fun i hi => pvN_ix X [] n hi
  have hcan : ∀ i : Nat, i < (elim f X [] n).piv.length → ix [] (canR (elim f X [] n)) i = ix [] (elim f X [] n).X i := fun i hi => ix_canR (by omega) (by omega)
  have hpl := piv_le f X [] n
  generalize hE : elim f X [] n = E at *
  have key : ∀ k : Nat, k ≤ E.piv.length → La.sm (fun j => v j * kv h (kerTo f (canR E) E.piv n c k) j) n = v c + -(La.sm (fun i => v (pvN E.piv i) * km h E.X i c) k) := by
    intro k
    induction k with
    | zero =>
      intro _
      show _ = v c + -(0 : KF f h)
      rw [Fi.neg_zero, Fi.add_zero]
      have hk0 : kerTo f (canR E) E.piv (n : Int) c 0 = (List.replicate n 0).set c 1 := by
        show (List.replicate (n : Int).toNat 0).set ((c : Int)).toNat 1 = _
        rw [show ((n : Int)).toNat = n by omega, show ((c : Int)).toNat = c by omega]
      rw [hk0, La.sm_one (k := c) hc fun j _ hne => by rw [kv_set h (by simpa using hc), if_neg hne, kv_zeros, Fi.mul_zero], kv_set h (by simpa using hc), if_pos rfl, ke_one, Fi.mul_one]
    | succ k ih =>
      intro hk
      have hpk := hpv k (by omega)
      have hmk := ix_mem 0 E.piv (i := (k : Int)) (by omega) (by omega)
      have hrk := hpr _ hmk
      have hset : kerTo f (canR E) E.piv (n : Int) c (k + 1) = (kerTo f (canR E) E.piv n c k).set (pvN E.piv k) (negF f (ix 0 (ix [] E.X k) c)) := by
        show (kerTo f (canR E) E.piv (n : Int) c k).set (ix 0 E.piv k).toNat _ = _
        rw [← hpk, hcan k (by omega)]; rfl
      have hln : pvN E.piv k < (kerTo f (canR E) E.piv (n : Int) c k).length := by rw [length_kerTo]; omega
      show _ = v c + -(La.sm _ k + v (pvN E.piv k) * km h E.X k c)
      rw [hset, La.sm_upd (p := pvN E.piv k) (by omega) (g := fun j => v j * kv h (kerTo f (canR E) E.piv n c k) j) ?_ (fun j hj => by rw [kv_set h hln, if_neg hj]), ih (by omega)]
      · rw [kv_set h hln, if_pos rfl, ke_neg, ← km_ix, Fi.neg_add_rev]
        have : v (pvN E.piv k) * -km h E.X k c = -(v (pvN E.piv k) * km h E.X k c) := Fi.mul_neg _ _
        rw [this]
        ac_rfl
      · have : ix 0 (kerTo f (canR E) E.piv (n : Int) c k) (pvN E.piv k : Nat) = 0 := by
          apply Classical.byContradiction
          intro hne
          rcases kerTo_supp (by omega) (fun p hp => (hpr p hp).1) k _ (by omega) (by omega) hne with e | ⟨i, i0, i1, i2⟩
          · exact hcP (by rw [← e, hpk]; exact hmk)
          · have := rr.inc i.toNat k (by omega) (by omega)
            have hpi := hpv i.toNat (by omega)
            rw [show ((i.toNat : Nat) : Int) = i by omega] at hpi
            omega
        show v _ * kv h (kerTo f (canR E) E.piv n c k) _ = 0
        rw [kv_ix h (kerTo f (canR E) E.piv n c k), this, ke_zero, Fi.mul_zero]
  rw [key _ (Nat.le_refl _), rr.span hv2 hc]
  exact Fi.add_neg _
theorem kerX_get (f : Fld) (X : List (List Int)) (n : Nat) {i : Nat} (hi : i < (kerX f X n).length) : ∃ c : Nat, c = (frC (elim f X [] n).piv n).getD i 0 ∧ c ∈ frC (elim f X [] n).piv n ∧ (kerX f X n).getD i [] = kerTo f (canR (elim f X [] n)) (elim f X [] n).piv n c (elim f X [] n).piv.length := by
  have e : kerX f X n = (frC (elim f X [] n).piv n).map fun c : Nat => kerTo f (canR (elim f X [] n)) (elim f X [] n).piv n (c : Int) (elim f X [] n).piv.length := by
    show kerL f _ _ _ _ = _
    rw [kerL_map]; rfl
  have hl : i < (frC (elim f X [] n).piv n).length := by rw [e, List.length_map] at hi; exact hi
  refine ⟨_, rfl, ?_, ?_⟩
  · rw [List.getD_eq_getElem?_getD, List.getElem?_eq_getElem hl]; exact List.getElem_mem hl
  · rw [e]
    simp only [List.getD, List.getElem?_map]
    rw [List.getElem?_eq_getElem hl]
    rfl
theorem kerX_good (hS : Shape f) (X : List (List Int)) (n : Nat) : good f n (kerX f X n) := ker_good hS _ _ _ _
/-- The rows of the kernel are orthogonal to the rows of the matrix. -/
theorem null_orth (h : FOk f) (hX : good f n X) {x row : List Int} (hx : x ∈ nullR f X n) (hr : row ∈ X) : dotF f x row = 0 := by
  have hY := kerX_good h.1 X n
  have hgn : good f n (nullR f X n) := canR_good h.1 hY n
  have s1 := elim_span h hY n
  obtain ⟨k, hk, hke⟩ := List.mem_iff_getElem.1 hr
  have hkm : km h X k = kv h row := by
    unfold km; simp only [List.getD]; rw [List.getElem?_eq_getElem hk, hke]; rfl
  have hv : La.Span (km h X) X.length (kv h row) := by rw [← hkm]; exact La.Span.mem hk
  obtain ⟨i, hi, hie⟩ := List.mem_iff_getElem.1 hx
  have hlc : (nullR f X n).length = (elim f (kerX f X n) [] n).piv.length := length_canR f (kerX f X n) n
  have hpl := piv_le f (kerX f X n) [] n
  have hxm : kv h x = km h (elim f (kerX f X n) [] n).X i := by
    rw [← km_canR h (E := elim f (kerX f X n) [] n) (i := i) (by omega)]
    unfold km
    show kv h x = kv h ((nullR f X n).getD i [])
    rw [List.getD_eq_getElem?_getD, List.getElem?_eq_getElem hi, hie]; rfl
  have hu : La.Span (km h (kerX f X n)) (kerX f X n).length (kv h x) := by rw [hxm]; exact s1.1 i (by omega)
  have key : La.sm (fun j => kv h row j * kv h x j) n = 0 := by
    refine La.Span.ind (Φ := fun u => La.sm (fun j => kv h row j * u j) n = 0) ?_ ?_ ?_ (m := (kerX f X n).length) (fun i hi => ?_) _ hu
    · exact La.sm_zero fun j _ => Fi.mul_zero _
    · intro u v hu hv
      rw [show (fun j => kv h row j * (u j + v j)) = fun j => kv h row j * u j + kv h row j * v j from funext fun j => Fi.mul_add _ _ _, La.sm_add, hu, hv, Fi.add_zero]
    · intro a u hu
      rw [show (fun j => kv h row j * (a * u j)) = fun j => a * (kv h row j * u j) from funext fun j => by ac_rfl, La.sm_mul, hu, Fi.mul_zero]
    · obtain ⟨c, _, hc2, hc3⟩ := kerX_get f X n hi
      have hcm := frC_mem hc2
      show La.sm (fun j => kv h row j * kv h ((kerX f X n).getD i []) j) n = 0
      rw [hc3]
      exact ker_orth h hX hv hcm.1 hcm.2
  have hd := dot_lt h.1 x row
  have hb := h.1.bd
  refine (ke_eq_zero h hd.1 hd.2).1 ?_
  rw [ke_dot h x row (n := n) (by have := (hgn x hx).1; omega), ← key]
  exact La.sm_congr fun j _ => Fi.mul_comm _ _
/-- Dimension of the kernel and rank add up to the number of columns. -/
theorem null_dim (h : FOk f) (hX : good f n X) : (elim f X [] n).piv.length + (nullR f X n).length = n := by
  have hY := kerX_good h.1 X n
  have hk := kerX_len h hX
  have hlc : (nullR f X n).length = (elim f (kerX f X n) [] n).piv.length := length_canR f (kerX f X n) n
  have hpl := piv_le f (kerX f X n) [] n
  have rr := elim_rref h hY (wide_nil 0) (.inl rfl) n
  have s1 := elim_span h hY n
  have hpr := piv_rng f X [] n
  have hkl : (kerX f X n).length = (frC (elim f X [] n).piv n).length := by
    show (kerL f _ _ _ _).length = _
    rw [kerL_map, List.length_map]; rfl
  have hle : (kerX f X n).length ≤ (elim f (kerX f X n) [] n).piv.length := by
    refine La.indep_le (A := km h (elim f (kerX f X n) [] n).X) (B := km h (kerX f X n)) (q := fun j => (frC (elim f X [] n).piv n).getD j 0) (fun i j hi hj => ?_) (fun i hi => ?_)
    · obtain ⟨c, hc1, hc2, hc3⟩ := kerX_get f X n hi
      obtain ⟨d, hd1, hd2, _⟩ := kerX_get f X n hj
      have hcm := frC_mem hc2
      have hdm := frC_mem hd2
      show kv h ((kerX f X n).getD i []) ((frC (elim f X [] n).piv n).getD j 0) = _
      rw [hc3, ← hd1, kv_ix]
      by_cases e : j = i
      · have : d = c := by rw [hc1, hd1, e]
        rw [if_pos e, this, kerTo_one (by omega) (by omega) (fun p hp => (hpr p hp).1) hcm.2 _ (Nat.le_refl _), ke_one]
      · rw [if_neg e]
        have hz : ix 0 (kerTo f (canR (elim f X [] n)) (elim f X [] n).piv n c (elim f X [] n).piv.length) (d : Nat) = 0 := by
          apply Classical.byContradiction
          intro hne
          rcases kerTo_supp (by omega) (fun p hp => (hpr p hp).1) _ _ (Nat.le_refl _) (by omega) hne with e2 | ⟨z, z0, z1, z2⟩
          · apply e
            have hcd : d = c := by omega
            rw [hc1, hd1, List.getD_eq_getElem?_getD, List.getD_eq_getElem?_getD, List.getElem?_eq_getElem (show i < (frC (elim f X [] n).piv n).length by omega), List.getElem?_eq_getElem (show j < (frC (elim f X [] n).piv n).length by omega)] at hcd
            exact (List.getElem_inj (frC_nodup _ _)).1 hcd
          · exact hdm.2 (by rw [← z2]; exact ix_mem 0 _ z0 z1)
        rw [hz, ke_zero]
    · refine ⟨La.lin (fun t => km h (kerX f X n) i (pvN (elim f (kerX f X n) [] n).piv t)) (km h (elim f (kerX f X n) [] n).X) (elim f (kerX f X n) [] n).piv.length, ⟨_, rfl⟩, fun j hj => ?_⟩
      obtain ⟨d, hd1, hd2, _⟩ := kerX_get f X n hj
      have hdm := frC_mem hd2
      exact rr.span (s1.2 i hi) (by show (frC (elim f X [] n).piv n).getD j 0 < n; omega)
  omega
end
/-- What the law on kernels asks. -/
structure KerF (f : Fld) (m : Mat) : Prop where
  orth : ∀ i j : Int, 0 ≤ i → i < (kerM f m).rows.length → 0 ≤ j → j < m.rows.length → dotF f (ix [] (kerM f m).rows i) (ix [] m.rows j) = 0
  dim : ((canP f m).length : Int) + (kerM f m).rows.length = m.cols
end Go.Cw

