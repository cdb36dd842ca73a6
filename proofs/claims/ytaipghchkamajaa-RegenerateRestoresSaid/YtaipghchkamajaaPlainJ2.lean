/-
  Plain facts.
-/
import Derived.Test.YtaipghchkamajaaPlainJ1
set_option linter.unusedVariables false
set_option linter.unusedSimpArgs false
set_option linter.unusedSectionVars false
namespace Go.Cw
/-- The columns below c that are no pivots. -/
def frC (P : List Int) : Nat → List Nat
  | 0 => []
  | c + 1 => if (c : Int) ∈ P then frC P c else frC P c ++ [c]
theorem frC_mem {P : List Int} {x : Nat} : ∀ {c : Nat}, x ∈ frC P c → x < c ∧ (x : Int) ∉ P
  | 0, h => by cases h
  | c + 1, h => by
    unfold frC at h
    split at h
    · have := frC_mem h; exact ⟨by omega, this.2⟩
    · rename_i hc
      rcases List.mem_append.1 h with h | h
      · have := frC_mem h; exact ⟨by omega, this.2⟩
      · rw [List.mem_singleton] at h; subst h; exact ⟨by omega, hc⟩
theorem frC_nodup (P : List Int) : ∀ c, (frC P c).Nodup
  | 0 => List.nodup_nil
  | c + 1 => by
    unfold frC
    split
    · exact frC_nodup P c
    · refine List.nodup_append.2 ⟨frC_nodup P c, by simp, fun x hx y hy => ?_⟩
      rw [List.mem_singleton] at hy
      have := frC_mem hx
      omega
theorem kerL_map (f : Fld) (R : List (List Int)) (P : List Int) (cols : Int) : ∀ c, kerL f R P cols c = (frC P c).map fun x : Nat => kerTo f R P cols (x : Int) P.length
  | 0 => rfl
  | c + 1 => by
    unfold frC
    rw [kerL, kerL_map f R P cols c]
    split
    · rfl
    · simp
theorem cnt_succ (c : Int) : ∀ P : List Int, (P.filter fun p => decide (p < c + 1)).length = (P.filter fun p => decide (p < c)).length + (P.filter fun p => decide (p = c)).length
  | [] => rfl
  | p :: P => by
    have ih := cnt_succ c P
    simp only [List.filter_cons]
    by_cases h1 : p < c
    · rw [if_pos (by simp; omega), if_pos (by simpa using h1), if_neg (by simp; omega)]
      simp only [List.length_cons]; omega
    · by_cases h3 : p = c
      · rw [if_pos (by simp; omega), if_neg (by simpa using h1), if_pos (by simpa using h3)]
        simp only [List.length_cons]; omega
      · rw [if_neg (by simp; omega), if_neg (by simpa using h1), if_neg (by simpa using h3)]
        exact ih
theorem cnt_one (c : Int) : ∀ {P : List Int}, P.Nodup → (P.filter fun p => decide (p = c)).length = if c ∈ P then 1 else 0
  | [], _ => rfl
  | p :: P, h => by
    obtain ⟨h1, h2⟩ := List.nodup_cons.1 h
    have ih := cnt_one c h2
    rw [List.filter_cons]
    by_cases e : p = c
    · subst e
      rw [if_neg h1] at ih
      simp [ih]
    · rw [if_neg (by simpa using e), ih]
      have : (c ∈ p :: P) ↔ c ∈ P := by simp [Ne.symm e]
      by_cases hc : c ∈ P
      · rw [if_pos hc, if_pos (this.2 hc)]
      · rw [if_neg hc, if_neg (fun h => hc (this.1 h))]
theorem frC_len {P : List Int} (hP : P.Nodup) (h0 : ∀ p ∈ P, 0 ≤ p) : ∀ c : Nat, (frC P c).length + (P.filter fun p => decide (p < (c : Int))).length = c
  | 0 => by
    have : (P.filter fun p => decide (p < ((0 : Nat) : Int))) = [] := List.filter_eq_nil_iff.2 fun p hp => by have := h0 p hp; simp; omega
    rw [this]; rfl
  | c + 1 => by
    have ih := frC_len hP h0 c
    have h1 := cnt_succ (c : Int) P
    have h2 := cnt_one (c : Int) hP
    rw [show (((c + 1 : Nat) : Nat) : Int) = (c : Int) + 1 by omega, h1, h2]
    unfold frC
    split
    · omega
    · simp only [List.length_append, List.length_cons, List.length_nil]; omega
section
variable {f : Fld} {n : Nat} {X : List (List Int)}
theorem piv_nodup (h : FOk f) (hX : good f n X) : (elim f X [] n).piv.Nodup := by
  rw [List.Nodup, List.pairwise_iff_getElem]
  intro i j hi hj hij
  have := piv_inc (n := n) h hX (i := (i : Int)) (j := (j : Int)) (by omega) (by omega) (by omega)
  rw [ix_nat, ix_nat, List.getD_eq_getElem?_getD, List.getD_eq_getElem?_getD, List.getElem?_eq_getElem hi, List.getElem?_eq_getElem hj] at this
  simp only [Option.getD_some] at this
  omega
theorem kerX_len (h : FOk f) (hX : good f n X) : (kerX f X n).length + (elim f X [] n).piv.length = n := by
  have hr := piv_rng f X [] n
  have := frC_len (piv_nodup h hX) (fun p hp => (hr p hp).1) n
  have hall : ((elim f X [] n).piv.filter fun p => decide (p < (n : Int))) = (elim f X [] n).piv := List.filter_eq_self.2 fun p hp => by have := hr p hp; simpa using this.2
  rw [hall] at this
  show (kerL f _ _ _ _).length + _ = _
  rw [kerL_map, List.length_map]
  exact this
/-- Where a word of the kernel is not zero. -/
theorem kerTo_supp {R : List (List Int)} {P : List Int} {cols c : Int} (c0 : 0 ≤ c) (hp : ∀ p ∈ P, 0 ≤ p) : ∀ (k : Nat) (j : Int), k ≤ P.length → 0 ≤ j → ix 0 (kerTo f R P cols c k) j ≠ 0 → j = c ∨ ∃ i : Int, 0 ≤ i ∧ i < k ∧ ix 0 P i = j
  | 0, j, _, j0, hne => by
    by_cases e : j = c
    · exact .inl e
    · exfalso; apply hne
      show ix 0 ((List.replicate cols.toNat (0 : Int)).set c.toNat 1) j = 0
      simp only [ix, List.getD]
      rw [List.getElem?_set_ne (by omega), List.getElem?_replicate]
      split <;> rfl
  | k + 1, j, hk, j0, hne => by
    have h0 := hp _ (ix_mem 0 P (i := (k : Int)) (by omega) (by omega))
    by_cases e : ix 0 P k = j
    · exact .inr ⟨k, by omega, by omega, e⟩
    · have : ix 0 (kerTo f R P cols c (k + 1)) j = ix 0 (kerTo f R P cols c k) j := by
        show ix 0 ((kerTo f R P cols c k).set (ix 0 P k).toNat _) j = _
        simp only [ix, List.getD]
        rw [List.getElem?_set_ne]
        intro e2
        apply e
        simp only [ix, List.getD] at h0 ⊢
        omega
      rw [this] at hne
      rcases kerTo_supp c0 hp k j (by omega) j0 hne with h1 | ⟨i, i0, i1, i2⟩
      · exact .inl h1
      · exact .inr ⟨i, i0, by omega, i2⟩
theorem kerTo_one {R : List (List Int)} {P : List Int} {cols c : Int} (c0 : 0 ≤ c) (c1 : c < cols) (hp : ∀ p ∈ P, 0 ≤ p) (hc : c ∉ P) : ∀ (k : Nat), k ≤ P.length → ix 0 (kerTo f R P cols c k) c = 1
  | 0, _ => by
    show ix 0 ((List.replicate cols.toNat (0 : Int)).set c.toNat 1) c = 1
    rw [ix_setE 0 _ _ c0 (by simp; omega) c0, if_pos rfl]
  | k + 1, hk => by
    have hm := ix_mem 0 P (i := (k : Int)) (by omega) (by omega)
    have h0 := hp _ hm
    rw [← kerTo_one c0 c1 hp hc k (by omega)]
    show ix 0 ((kerTo f R P cols c k).set (ix 0 P k).toNat _) c = _
    simp only [ix, List.getD]
    rw [List.getElem?_set_ne]
    intro e2
    apply hc
    have : ix 0 P k = c := by simp only [ix, List.getD] at h0 ⊢; omega
    rw [← this]; exact hm
/-- The words of the kernel are orthogonal to the rows. -/
theorem ker_orth (h : FOk f) (hX : good f n X) {v : Nat → KF f h} (hv : La.Span (km h X) X.length v) {c : Nat} (hc : c < n) (hcP : (c : Int) ∉ (elim f X [] n).piv) :
    La.sm (fun j => v j * kv h (kerTo f (canR (elim f X [] n)) (elim f X [] n).piv n c (elim f X [] n).piv.length) j) n = 0 := by
  have rr := elim_rref h hX (wide_nil 0) (.inl rfl) n
  have s1 := elim_span h hX n
  have hv2 : La.Span (km h (elim f X [] n).X) X.length v := hv.trans s1.2
  have hpr := piv_rng f X [] n
  have hpv : ∀ i : Nat, i < (elim f X [] n).piv.length → ((pvN (elim f X [] n).piv i : Nat) : Int) = ix 0 (elim f X [] n).piv i := fun i hi => pvN_ix X [] n hi
  have hcan : ∀ i : Nat, i < (elim f X [] n).piv.length → ix [] (canR (elim f X [] n)) i = ix [] (elim f X [] n).X i := fun i hi => ix_canR (by omega) (by omega)
  have hpl := piv_le f X [] n
  generalize hE : elim f X [] n = E at *
  have key : ∀ k : Nat, k ≤ E.piv.length → La.sm (fun j => v j * kv h (kerTo f (canR E) E.piv n c k) j) n = v c + -(La.sm (fun i => v (pvN E.piv i) * km h E.X i c) k) := by
    intro k
    induction k with
    | zero =>
      intro _
      show _ = v c + -(0 : KF f h)
      rw [Fi.neg_zero, Fi.add_zero]
      have hk0 : kerTo f (canR E) E.piv (n : Int) c 0 = (List.replicate n 0).set c 1 := by
        show (List.replicate (n : Int).toNat 0).set ((c : Int)).toNat 1 = _
        rw [show ((n : Int)).toNat = n by omega, show ((c : Int)).toNat = c by omega]
      rw [hk0, La.sm_one (k := c) hc fun j _ hne => by rw [kv_set h (by simpa using hc), if_neg hne, kv_zeros, Fi.mul_zero], kv_set h (by simpa using hc), if_pos rfl, ke_one, Fi.mul_one]
    | succ k ih =>
      intro hk
      have hpk := hpv k (by omega)
      have hmk := ix_mem 0 E.piv (i := (k : Int)) (by omega) (by omega)
      have hrk := hpr _ hmk
      have hset : kerTo f (canR E) E.piv (n : Int) c (k + 1) = (kerTo f (canR E) E.piv n c k).set (pvN E.piv k) (negF f (ix 0 (ix [] E.X k) c)) := by
        show (kerTo f (canR E) E.piv (n : Int) c k).set (ix 0 E.piv k).toNat _ = _
        rw [← hpk, hcan k (by omega)]; rfl
      have hln : pvN E.piv k < (kerTo f (canR E) E.piv (n : Int) c k).length := by rw [length_kerTo]; omega
      show _ = v c + -(La.sm _ k + v (pvN E.piv k) * km h E.X k c)
      rw [hset, La.sm_upd (p := pvN E.piv k) (by omega) (g := fun j => v j * kv h (kerTo f (canR E) E.piv n c k) j) ?_ (fun j hj => by rw [kv_set h hln, if_neg hj]), ih (by omega)]
      · rw [kv_set h hln, if_pos rfl, ke_neg, ← km_ix, Fi.neg_add_rev]
        have : v (pvN E.piv k) * -km h E.X k c = -(v (pvN E.piv k) * km h E.X k c) := Fi.mul_neg _ _
        rw [this]
        ac_rfl
      · have : ix 0 (kerTo f (canR E) E.piv (n : Int) c k) (pvN E.piv k : Nat) = 0 := by
          apply Classical.byContradiction
          intro hne
          rcases kerTo_supp (by omega) (fun p hp => (hpr p hp).1) k _ (by omega) (by omega) hne with e | ⟨i, i0, i1, i2⟩
          · exact hcP (by rw [← e, hpk]; exact hmk)
          · have := rr.inc i.toNat k (by omega) (by omega)
            have hpi := hpv i.toNat (by omega)
            rw [show ((i.toNat : Nat) : Int) = i by omega] at hpi
            omega
        show v _ * kv h (kerTo f (canR E) E.piv n c k) _ = 0
        rw [kv_ix h (kerTo f (canR E) E.piv n c k), this, ke_zero, Fi.mul_zero]
  rw [key _ (Nat.le_refl _), rr.span hv2 hc]
  exact Fi.add_neg _
theorem kerX_get (f : Fld) (X : List (List Int)) (n : Nat) {i : Nat} (hi : i < (kerX f X n).length) : ∃ c : Nat, c = (frC (elim f X [] n).piv n).getD i 0 ∧ c ∈ frC (elim f X [] n).piv n ∧ (kerX f X n).getD i [] = kerTo f (canR (elim f X [] n)) (elim f X [] n).piv n c (elim f X [] n).piv.length := by
  have e : kerX f X n = (frC (elim f X [] n).piv n).map fun c : Nat => kerTo f (canR (elim f X [] n)) (elim f X [] n).piv n (c : Int) (elim f X [] n).piv.length := by
    show kerL f _ _ _ _ = _
    rw [kerL_map]; rfl
  have hl : i < (frC (elim f X [] n).piv n).length := by rw [e, List.length_map] at hi; exact hi
  refine ⟨_, rfl, ?_, ?_⟩
  · rw [List.getD_eq_getElem?_getD, List.getElem?_eq_getElem hl]; exact List.getElem_mem hl
  · rw [e]
    simp only [List.getD, List.getElem?_map]
    rw [List.getElem?_eq_getElem hl]
    rfl
theorem kerX_good (hS : Shape f) (X : List (List Int)) (n : Nat) : good f n (kerX f X n) := ker_good hS _ _ _ _
/-- The rows of the kernel are orthogonal to the rows of the matrix. -/
theorem null_orth (h : FOk f) (hX : good f n X) {x row : List Int} (hx : x ∈ nullR f X n) (hr : row ∈ X) : dotF f x row = 0 := by
  have hY := kerX_good h.1 X n
  have hgn : good f n (nullR f X n) := canR_good h.1 hY n
  have s1 := elim_span h hY n
  obtain ⟨k, hk, hke⟩ := List.mem_iff_getElem.1 hr
  have hkm : km h X k = kv h row := by
    unfold km; simp only [List.getD]; rw [List.getElem?_eq_getElem hk, hke]; rfl
  have hv : La.Span (km h X) X.length (kv h row) := by rw [← hkm]; exact La.Span.mem hk
  obtain ⟨i, hi, hie⟩ := List.mem_iff_getElem.1 hx
  have hlc : (nullR f X n).length = (elim f (kerX f X n) [] n).piv.length := length_canR f (kerX f X n) n
  have hpl := piv_le f (kerX f X n) [] n
  have hxm : kv h x = km h (elim f (kerX f X n) [] n).X i := by
    rw [← km_canR h (E := elim f (kerX f X n) [] n) (i := i) (by omega)]
    unfold km
    show kv h x = kv h ((nullR f X n).getD i [])
    rw [List.getD_eq_getElem?_getD, List.getElem?_eq_getElem hi, hie]; rfl
  have hu : La.Span (km h (kerX f X n)) (kerX f X n).length (kv h x) := by rw [hxm]; exact s1.1 i (by omega)
  have key : La.sm (fun j => kv h row j * kv h x j) n = 0 := by
    refine La.Span.ind (Φ := fun u => La.sm (fun j => kv h row j * u j) n = 0) ?_ ?_ ?_ (m := (kerX f X n).length) (fun i hi => ?_) _ hu
    · exact La.sm_zero fun j _ => Fi.mul_zero _
    · intro u v hu hv
      rw [show (fun j => kv h row j * (u j + v j)) = fun j => kv h row j * u j + kv h row j * v j from funext fun j => Fi.mul_add _ _ _, La.sm_add, hu, hv, Fi.add_zero]
    · intro a u hu
      rw [show (fun j => kv h row j * (a * u j)) = fun j => a * (kv h row j * u j) from funext fun j => by ac_rfl, La.sm_mul, hu, Fi.mul_zero]
    · obtain ⟨c, _, hc2, hc3⟩ := kerX_get f X n hi
      have hcm := frC_mem hc2
      show La.sm (fun j => kv h row j * kv h ((kerX f X n).getD i []) j) n = 0
      rw [hc3]
      exact ker_orth h hX hv hcm.1 hcm.2
  have hd := dot_lt h.1 x row
  have hb := h.1.bd
  refine (ke_eq_zero h hd.1 hd.2).1 ?_
  rw [ke_dot h x row (n := n) (by have := (hgn x hx).1; omega), ← key]
  exact La.sm_congr fun j _ => Fi.mul_comm _ _
/-- Dimension of the kernel and rank add up to the number of columns. -/
theorem null_dim (h : FOk f) (hX : good f n X) : (elim f X [] n).piv.length + (nullR f X n).length = n := by
  have hY := kerX_good h.1 X n
  have hk := kerX_len h hX
  have hlc : (nullR f X n).length = (elim f (kerX f X n) [] n).piv.length := length_canR f (kerX f X n) n
  have hpl := piv_le f (kerX f X n) [] n
  have rr := elim_rref h hY (wide_nil 0) (.inl rfl) n
  have s1 := elim_span h hY n
  have hpr := piv_rng f X [] n
  have hkl : (kerX f X n).length = (frC (elim f X [] n).piv n).length := by
    show (kerL f _ _ _ _).length = _
    rw [kerL_map, List.length_map]; rfl
  have hle : (kerX f X n).length ≤ (elim f (kerX f X n) [] n).piv.length := by
    refine La.indep_le (A := km h (elim f (kerX f X n) [] n).X) (B := km h (kerX f X n)) (q := fun j => (frC (elim f X [] n).piv n).getD j 0) (fun i j hi hj => ?_) (fun i hi => ?_)
    · obtain ⟨c, hc1, hc2, hc3⟩ := kerX_get f X n hi
      obtain ⟨d, hd1, hd2, _⟩ := kerX_get f X n hj
      have hcm := frC_mem hc2
      have hdm := frC_mem hd2
      show kv h ((kerX f X n).getD i []) ((frC (elim f X [] n).piv n).getD j 0) = _
      rw [hc3, ← hd1, kv_ix]
      by_cases e : j = i
      · have : d = c := by rw [hc1, hd1, e]
        rw [if_pos e, this, kerTo_one (by omega) (by omega) (fun p hp => (hpr p hp).1) hcm.2 _ (Nat.le_refl _), ke_one]
      · rw [if_neg e]
        have hz : ix 0 (kerTo f (canR (elim f X [] n)) (elim f X [] n).piv n c (elim f X [] n).piv.length) (d : Nat) = 0 := by
          apply Classical.byContradiction
          intro hne
          rcases kerTo_supp (by omega) (fun p hp => (hpr p hp).1) _ _ (Nat.le_refl _) (by omega) hne with e2 | ⟨z, z0, z1, z2⟩
          · apply e
            have hcd : d = c := by omega
            rw [hc1, hd1, List.getD_eq_getElem?_getD, List.getD_eq_getElem?_getD, List.getElem?_eq_getElem (show i < (frC (elim f X [] n).piv n).length by omega), List.getElem?_eq_getElem (show j < (frC (elim f X [] n).piv n).length by omega)] at hcd
            exact (List.getElem_inj (frC_nodup _ _)).1 hcd
          · exact hdm.2 (by rw [← z2]; exact ix_mem 0 _ z0 z1)
        rw [hz, ke_zero]
    · refine ⟨La.lin (fun t => km h (kerX f X n) i (pvN (elim f (kerX f X n) [] n).piv t)) (km h (elim f (kerX f X n) [] n).X) (elim f (kerX f X n) [] n).piv.length, ⟨_, rfl⟩, fun j hj => ?_⟩
      obtain ⟨d, hd1, hd2, _⟩ := kerX_get f X n hj
      have hdm := frC_mem hd2
      exact rr.span (s1.2 i hi) (by show (frC (elim f X [] n).piv n).getD j 0 < n; omega)
  omega
end
/-- What the law on kernels asks. -/
structure KerF (f : Fld) (m : Mat) : Prop where
  orth : ∀ i j : Int, 0 ≤ i → i < (kerM f m).rows.length → 0 ≤ j → j < m.rows.length → dotF f (ix [] (kerM f m).rows i) (ix [] m.rows j) = 0
  dim : ((canP f m).length : Int) + (kerM f m).rows.length = m.cols
end Go.Cw


set_option linter.unusedVariables false
set_option linter.unusedSimpArgs false
set_option linter.unusedSectionVars false
namespace Go.Cw
namespace La
variable {K : Type} [Fi K]
theorem sm_front (g : Nat → K) : ∀ n : Nat, sm g (n + 1) = g 0 + sm (fun j => g (j + 1)) n
  | 0 => by show (0 : K) + g 0 = g 0 + 0; rw [Fi.zero_add, Fi.add_zero]
  | n + 1 => by
    show sm g (n + 1) + g (n + 1) = g 0 + (sm (fun j => g (j + 1)) n + g (n + 1))
    rw [sm_front g n, Fi.add_assoc]
theorem ev_sm (x : K) : ∀ l : List K, Fi.ev l x = sm (fun j => l.getD j 0 * Fi.pow x j) l.length
  | [] => rfl
  | c :: l => by
    show c + x * Fi.ev l x = sm _ (l.length + 1)
    rw [sm_front, ev_sm x l, ← sm_mul]
    have e0 : (c :: l).getD 0 0 * Fi.pow x 0 = c := by show c * 1 = c; exact Fi.mul_one c
    rw [e0]
    congr 1
    refine sm_congr fun j _ => ?_
    show x * (l.getD j 0 * Fi.pow x j) = l.getD j 0 * (Fi.pow x j * x)
    rw [Fi.mul_comm x, Fi.mul_assoc]
end La
section
variable {f : Fld} (h : FOk f)
theorem ke_powc {x : Int} (x0 : 0 ≤ x) (x1 : x < f.q) (k : Nat) : ke h (f.R.powc x k) = Fi.pow (ke h x) k := by
  have hc := h.1.card
  have hl := Rg.powc_lt f.R x k
  apply Rg.Kt.ext
  show f.R.elt (inF f (f.R.powc x k)) = _
  rw [Rg.pow_v, inF_id hl.1 (by omega)]
  have e : (ke h x).code = x := by
    show f.R.num (f.R.elt (inF f x)) = x
    rw [inF_id x0 x1]
    exact Rg.num_elt f.R x0 (show x < f.R.card by omega)
  rw [e]
theorem ke_powF {x : Int} (x0 : 0 ≤ x) (x1 : x < f.q) {j : Int} (j0 : 0 ≤ j) (j1 : j < f.q - 1) : ke h (powF f x j) = Fi.pow (ke h x) j.toNat := by
  unfold powF
  by_cases e : j = 0
  · rw [if_pos e, e]; exact ke_one h
  · rw [if_neg e, inF_id x0 x1]
    by_cases e2 : x = 0
    · rw [if_pos e2, e2, ke_zero, show j.toNat = (j.toNat - 1) + 1 by omega]
      show (0 : KF f h) = Fi.pow 0 _ * 0
      rw [Fi.mul_zero]
    · rw [if_neg e2]
      have : powN f j = j := by
        unfold powN
        rw [Int.tmod_eq_emod_of_nonneg j0, Int.emod_eq_of_lt j0 j1, Int.add_emod_right, Int.emod_eq_of_lt j0 j1]
      rw [this, ke_powc h x0 x1]
include h in
theorem powF_rng (x j : Int) : 0 ≤ powF f x j ∧ powF f x j < f.q := by
  have hb := h.1.bd
  have hc := h.1.card
  unfold powF
  split
  · exact ⟨by omega, by omega⟩
  · split
    · exact ⟨by omega, by omega⟩
    · have := Rg.powc_lt f.R (inF f x) (powN f j).toNat
      exact ⟨this.1, by omega⟩
/-- The rows of powers. -/
def vdm (f : Fld) (xs : List Int) (n : Int) : List (List Int) := xs.map fun x => powsF f x n
@[simp] theorem length_vdm (f : Fld) (xs : List Int) (n : Int) : (vdm f xs n).length = xs.length := by simp [vdm]
include h in
theorem vdm_good (xs : List Int) (n : Int) : good f n.toNat (vdm f xs n) := fun l hl => by
  obtain ⟨x, _, rfl⟩ := List.mem_map.1 hl
  exact ⟨length_mapR _ _, outF_mapR fun i _ _ => powF_rng h x i⟩
include h in
theorem vdm_err {xs : List Int} {n : Int} (n0 : 0 ≤ n) (n1 : n ≤ 256) (hl : xs.length ≤ 256) : mErr f ⟨n, vdm f xs n⟩ = 0 :=
  mErr_zero.2 ⟨h, good_mat n0 n1 (by show (vdm f xs n).length ≤ 256; rw [length_vdm]; exact hl) (vdm_good h xs n)⟩
theorem ke_map_nodup {xs : List Int} (hx : ∀ x ∈ xs, 0 ≤ x ∧ x < f.q) (hn : xs.Nodup) : (xs.map (ke h)).Nodup := by
  induction xs with
  | nil => exact List.nodup_nil
  | cons a xs ih =>
    rw [List.nodup_cons] at hn
    rw [List.map_cons, List.nodup_cons]
    refine ⟨fun hm => ?_, ih (fun x hx' => hx x (List.mem_cons_of_mem _ hx')) hn.2⟩
    obtain ⟨b, hb, e⟩ := List.mem_map.1 hm
    have r1 := hx a (by simp)
    have r2 := hx b (List.mem_cons_of_mem _ hb)
    have := ke_inj h r2.1 r2.2 r1.1 r1.2 e
    rw [this] at hb
    exact hn.1 hb
include h in
/-- Powers of distinct elements: full rank. -/
theorem vdm_rank {xs : List Int} {n : Nat} (hx : ∀ x ∈ xs, 0 ≤ x ∧ x < f.q) (hn : xs.Nodup) (hl : xs.length = n) (hq : (n : Int) ≤ f.q - 1) : (elim f (vdm f xs n) [] n).piv.length = n := by
  have hg : good f n (vdm f xs n) := by have := vdm_good h xs (n : Int); rwa [show ((n : Int)).toNat = n by omega] at this
  have hd := null_dim h hg
  refine Classical.byContradiction fun hne => ?_
  have h0 : 0 < (nullR f (vdm f xs n) n).length := by omega
  have hk := kerX_good h.1 (vdm f xs n) n
  have hgn : good f n (nullR f (vdm f xs n) n) := canR_good h.1 hk n
  have hlc := length_canR f (kerX f (vdm f xs n) n) n
  have hpl := piv_le f (kerX f (vdm f xs n) n) [] n
  have hr := elim_rref h hk (wide_nil 0) (.inl rfl) n
  have h0' : 0 < (elim f (kerX f (vdm f xs n) n) [] n).piv.length := by rw [← hlc]; exact h0
  have hone := hr.one 0 h0'
  let x := ix [] (nullR f (vdm f xs n) n) 0
  have hx0 : x ∈ nullR f (vdm f xs n) n := ix_mem' (by omega) (by omega)
  have hxl := (hgn x hx0).1
  let L := x.map (ke h)
  have hLl : L.length = n := by show (x.map (ke h)).length = n; rw [List.length_map]; exact hxl
  have hget : ∀ j : Nat, L.getD j 0 = kv h x j := fun j => by
    show (x.map (ke h)).getD j 0 = ke h (x.getD j 0)
    by_cases hj : j < x.length
    · exact getD_map (ke h) x 0 0 hj
    · simp only [List.getD]
      rw [List.getElem?_eq_none (by rw [List.length_map]; omega), List.getElem?_eq_none (by omega)]
      exact (ke_zero h).symm
  have hnz : ∃ c ∈ L, c ≠ 0 := by
    have e : kv h x (pvN (elim f (kerX f (vdm f xs n) n) [] n).piv 0) = 1 := by
      rw [← hone]
      show kv h (ix [] ((elim f (kerX f (vdm f xs n) n) [] n).X.take (elim f (kerX f (vdm f xs n) n) [] n).piv.length) 0) _ = kv h ((elim f (kerX f (vdm f xs n) n) [] n).X.getD 0 []) _
      congr 1
      simp only [ix, List.getD]
      rw [List.getElem?_take, if_pos (by omega)]; rfl
    generalize pvN (elim f (kerX f (vdm f xs n) n) [] n).piv 0 = q at e
    rw [← hget] at e
    by_cases hq2 : q < L.length
    · refine ⟨L[q], List.getElem_mem hq2, ?_⟩
      simp only [List.getD] at e
      rw [List.getElem?_eq_getElem hq2] at e
      intro e2
      rw [e2] at e
      exact Fi.one_ne e.symm
    · simp only [List.getD] at e
      rw [List.getElem?_eq_none (by omega)] at e
      exact absurd e.symm Fi.one_ne
  have hroots : ∀ r ∈ xs.map (ke h), Fi.ev L r = 0 := fun r hr => by
    obtain ⟨y, hy, rfl⟩ := List.mem_map.1 hr
    have hrow : powsF f y n ∈ vdm f xs n := List.mem_map.2 ⟨y, hy, rfl⟩
    have ho := null_orth h hg hx0 hrow
    have hk2 := ke_dot h x (powsF f y n) (n := n) (by rw [hxl]; exact Nat.le_refl _)
    rw [ho, ke_zero] at hk2
    refine Eq.trans ?_ hk2.symm
    rw [La.ev_sm, hLl]
    refine La.sm_congr fun j hj => ?_
    rw [hget j]
    congr 1
    show Fi.pow (ke h y) j = kv h (powsF f y n) j
    rw [kv_ix]
    unfold powsF
    rw [ix_mapR 0 _ (by omega) (by omega), ke_powF h (hx y hy).1 (hx y hy).2 (by omega) (by omega)]
    congr 1
  have := Fi.roots_lt L.length L (Nat.le_refl _) hnz (xs.map (ke h)) (ke_map_nodup h hx hn) hroots
  rw [List.length_map, hLl] at this
  omega
include h in
/-- A system of full rank has a solution. -/
theorem vdm_sol {xs b : List Int} {n : Int} (hx : ∀ x ∈ xs, 0 ≤ x ∧ x < f.q) (hn : xs.Nodup) (hl : (xs.length : Int) = n) (n1 : n ≤ 256) (hq : n ≤ f.q - 1) (hb : (b.length : Int) = n) (hbo : ¬ outF f b) : solE f ⟨n, vdm f xs n⟩ b = 0 := by
  have hm := vdm_err h (xs := xs) (n := n) (by omega) n1 (by omega)
  have en : n = ((xs.length : Nat) : Int) := hl.symm
  refine solE_ok (by rw [sErr_ok hm]; exact vecErr_zero.2 ⟨by show (b.length : Int) = (vdm f xs n).length; rw [length_vdm]; omega, hbo⟩) ?_
  rintro ⟨l, hl2, _⟩
  have hp : (elim f (augL (vdm f xs n) b) [] n.toNat).piv.length = xs.length := by
    rw [piv_aug h (vdm_good h xs n) hbo, en]
    rw [show ((xs.length : Nat) : Int).toNat = xs.length by omega]
    exact vdm_rank h hx hn rfl (by omega)
  have hX := (length_elim f (augL (vdm f xs n) b) [] n.toNat).1
  rw [length_augL, length_vdm] at hX
  have : (solX f ⟨n, vdm f xs n⟩ b).X.drop (solX f ⟨n, vdm f xs n⟩ b).piv.length = [] := by
    apply List.drop_eq_nil_of_le
    show (elim f (augL (vdm f xs n) b) [] n.toNat).X.length ≤ (elim f (augL (vdm f xs n) b) [] n.toNat).piv.length
    omega
  rw [this] at hl2
  cases hl2
end
end Go.Cw


set_option linter.unusedVariables false
set_option linter.unusedSimpArgs false
set_option linter.unusedSectionVars false
namespace Go.Cw
noncomputable def nodErr (n m but : Int) (l : List Int) : Int := if (l.length : Int) ≠ m then 3 else lstErr n but l
open Classical in
noncomputable def repErr (r : Rgn) (x : Int) (hs ss : List Int) : Int :=
  if rgErr r ≠ 0 then rgErr r else if x < 0 ∨ (r.Points.length : Int) ≤ x then 6 else if nodErr r.Points.length r.D x hs ≠ 0 then nodErr r.Points.length r.D x hs else lenErr r.F ss r.D
noncomputable def repZ (r : Rgn) (hs ss : List Int) : List Int := solV r.F ⟨r.D, vdm r.F (pickL r.Points hs) r.D⟩ ss
noncomputable def repU (r : Rgn) (x : Int) (hs ss : List Int) : List Int :=
  if r.Kind = 0 then repZ r hs ss else addTo r.F ((repZ r hs ss).take (rgA r).toNat) (powF r.F (ix 0 r.Points x) (rgA r)) ((repZ r hs ss).drop (rgA r).toNat)
open Classical in
noncomputable def repV (r : Rgn) (x : Int) (hs ss : List Int) : List Int := if repErr r x hs ss = 0 then repU r x hs ss else []
theorem nodErr_zero {n m but : Int} {l : List Int} (h : nodErr n m but l = 0) : (l.length : Int) = m ∧ (∀ i ∈ l, 0 ≤ i ∧ i < n ∧ i ≠ but) ∧ l.Nodup := by
  unfold nodErr lstErr at h
  split at h
  · cases h
  · rename_i h1
    split at h
    · cases h
    · rename_i h2
      split at h
      · rename_i h3
        refine ⟨Classical.not_not.1 h1, fun i hi => Classical.byContradiction fun hn => h2 ⟨i, hi, ?_⟩, h3⟩
        omega
      · cases h
theorem pick_nodup {l : List Int} (hl : l.Nodup) : ∀ {hs : List Int}, (∀ i ∈ hs, 0 ≤ i ∧ i < l.length) → hs.Nodup → (pickL l hs).Nodup
  | [], _, _ => List.nodup_nil
  | a :: hs, h, hn => by
    rw [List.nodup_cons] at hn
    show (ix 0 l a :: pickL l hs).Nodup
    rw [List.nodup_cons]
    refine ⟨fun hm => ?_, pick_nodup hl (fun i hi => h i (List.mem_cons_of_mem _ hi)) hn.2⟩
    obtain ⟨b, hb, e⟩ := List.mem_map.1 hm
    have ha := h a (by simp)
    have hb2 := h b (List.mem_cons_of_mem _ hb)
    have e1 := ix_get 0 l a ha.1 ha.2
    have e2 := ix_get 0 l b hb2.1 hb2.2
    have : a.toNat = b.toNat := by
      have h1 : a.toNat < l.length := by omega
      have h2 : b.toNat < l.length := by omega
      rw [List.getElem?_eq_getElem h1] at e1
      rw [List.getElem?_eq_getElem h2] at e2
      have e3 : l[a.toNat] = l[b.toNat] := by
        have x1 := Option.some.inj e1
        have x2 := Option.some.inj e2
        rw [x1, x2]; exact e.symm
      rcases Nat.lt_trichotomy a.toNat b.toNat with hlt | heq | hgt
      · exact absurd e3 (List.pairwise_iff_getElem.1 hl _ _ h1 h2 hlt)
      · exact heq
      · exact absurd e3.symm (List.pairwise_iff_getElem.1 hl _ _ h2 h1 hgt)
    have : a = b := by omega
    rw [this] at hn
    exact hn.1 hb
theorem solTo_rng {f : Fld} (hS : Shape f) {w : Nat} {E : El} (hg : good f w E.X) (cols : Int) : ∀ k : Nat, k ≤ E.X.length → ¬ outF f (solTo E cols k)
  | 0, _ => notOut_zero hS _
  | k + 1, hk => by
    have r := good_ixlt hS hg (i := (k : Int)) (by omega) (by omega) cols
    exact notOut_set (solTo_rng hS hg cols k (by omega)) r.1 r.2 _
structure RepF (r : Rgn) (x : Int) (hs ss : List Int) : Prop where
  fld : FOk r.F
  d : 1 ≤ r.D ∧ r.D ≤ 63
  hl : (hs.length : Int) = r.D
  hi : ∀ i ∈ hs, 0 ≤ i ∧ i < r.Points.length
  sol : solE r.F ⟨r.D, vdm r.F (pickL r.Points hs) r.D⟩ ss = 0
  zl : ((repZ r hs ss).length : Int) = r.D
  zr : ¬ outF r.F (repZ r hs ss)
  k : r.Kind ≠ 0 → rgA r = r.K - 1 ∧ r.D = 2 * rgA r ∧ 1 ≤ rgA r
  k0 : r.Kind = 0 ∨ r.Kind = 1
theorem rep_facts {r : Rgn} {x : Int} {hs ss : List Int} (h1 : rgErr r = 0) (h2 : nodErr r.Points.length r.D x hs = 0) (h3 : lenErr r.F ss r.D = 0) : RepF r x hs ss := by
  have R := rgErr_zero.1 h1
  have hF := R.fld
  have hS := hF.1
  have hb := hS.bd
  obtain ⟨a1, a2, a3⟩ := nodErr_zero h2
  have hA := rgA_le R
  have hrng := R.rng
  have hlen := R.len
  have hpx : ∀ y ∈ r.Points, 0 ≤ y ∧ y < r.F.q := fun y hy => outF_no R.elt hy
  have hpq : (r.Points.length : Int) ≤ r.F.q := by
    have := nodup_lt_length r.F.q.toNat r.Points R.nodup (fun y hy => by have := hpx y hy; omega)
    omega
  have hi : ∀ i ∈ hs, 0 ≤ i ∧ i < r.Points.length := fun i hi => ⟨(a2 i hi).1, (a2 i hi).2.1⟩
  have hx : ∀ y ∈ pickL r.Points hs, 0 ≤ y ∧ y < r.F.q := fun y hy => by
    obtain ⟨i, h4, rfl⟩ := List.mem_map.1 hy
    exact hpx _ (ix_mem 0 r.Points (hi i h4).1 (hi i h4).2)
  have hpl : (pickL r.Points hs).length = hs.length := by simp [pickL]
  have hd1 : r.D ≤ (r.Points.length : Int) - 1 := by unfold rgBad at hrng; omega
  have hsl := lenErr_len h3
  have hso : ¬ outF r.F ss := by
    unfold lenErr at h3
    rw [if_neg (by omega)] at h3
    exact entErr_zero.1 h3
  have sol := vdm_sol hF (xs := pickL r.Points hs) (b := ss) (n := r.D) hx (pick_nodup R.nodup hi a3) (by omega) (by omega) (by omega) hsl hso
  have hm := vdm_err hF (xs := pickL r.Points hs) (n := r.D) (by omega) (by omega) (by omega)
  have hz : repZ r hs ss = solTo (solX r.F ⟨r.D, vdm r.F (pickL r.Points hs) r.D⟩ ss) r.D (solX r.F ⟨r.D, vdm r.F (pickL r.Points hs) r.D⟩ ss).piv.length := solV_ok sol
  have hg := good_elim hS (Y := []) (aug_good hS (vdm_good hF (pickL r.Points hs) r.D) hso) r.D.toNat
  have hp := piv_le r.F (augL (vdm r.F (pickL r.Points hs) r.D) ss) [] r.D.toNat
  have hle := (length_elim r.F (augL (vdm r.F (pickL r.Points hs) r.D) ss) [] r.D.toNat).1
  refine ⟨hF, ⟨hA.1, hA.2.1⟩, a1, hi, sol, by rw [hz, length_solTo]; omega, by rw [hz]; exact solTo_rng hS hg r.D _ (by show (elim r.F (augL (vdm r.F (pickL r.Points hs) r.D) ss) [] r.D.toNat).piv.length ≤ (elim r.F (augL (vdm r.F (pickL r.Points hs) r.D) ss) [] r.D.toNat).X.length; omega), ?_, by unfold rgBad at hrng; omega⟩
  intro hk
  unfold rgBad at hrng
  unfold rgA
  rw [if_neg hk]
  omega
/-- What the program adds up. -/
def repW (f : Fld) (W z : List Int) : List Int := mapR (fun i => addF f (ix 0 W i) (ix 0 z i)) W.length
@[simp] theorem length_repW (f : Fld) (W z : List Int) : (repW f W z).length = W.length := by unfold repW; rw [length_mapR]; omega
theorem ix_repW (f : Fld) (W z : List Int) {i : Int} (h0 : 0 ≤ i) (h1 : i < W.length) : ix 0 (repW f W z) i = addF f (ix 0 W i) (ix 0 z i) := by unfold repW; rw [ix_mapR 0 _ h0 h1]
theorem rep_eq {f : Fld} (h : FOk f) {z : List Int} {a : Nat} (x : Int) (hl : z.length = 2 * a) (hz : ¬ outF f z) : repW f (scaleF f x (z.drop a)) z = addTo f (z.take a) x (z.drop a) := by
  have hd : (z.drop a).length = a := by rw [List.length_drop]; omega
  have ht : (z.take a).length = a := by rw [List.length_take]; omega
  have hw : (scaleF f x (z.drop a)).length = a := by rw [length_scaleF]; exact hd
  refine ext_ix 0 (by rw [length_repW, length_addTo]; omega) fun i i0 i1 => ?_
  rw [length_repW, hw] at i1
  rw [ix_repW _ _ _ i0 (by omega), ix_scaleF f _ _ i0 (by omega), ix_addTo f _ _ _ i0 (by omega), show ix 0 (z.take a) i = ix 0 z i by simp only [ix, List.getD]; rw [List.getElem?_take, if_pos (by omega)]]
  have r1 := ix_ok h.1 hz i
  have r2 := h.1.addF_lt (mulF f x (ix 0 (z.drop a) i)) (ix 0 z i)
  have r3 := h.1.addF_lt (ix 0 z i) (mulF f x (ix 0 (z.drop a) i))
  split
  · rename_i e
    refine ke_inj h r2.1 r2.2 r1.1 r1.2 ?_
    rw [ke_add, ke_mul, e, ke_zero, Fi.mul_zero, Fi.zero_add]
  · refine ke_inj h r2.1 r2.2 r3.1 r3.2 ?_
    rw [ke_add, ke_add, Fi.add_comm]
theorem repErr_1 {r : Rgn} {x : Int} {hs ss : List Int} (h : rgErr r ≠ 0) : repErr r x hs ss = rgErr r := if_pos h
theorem repErr_6 {r : Rgn} {x : Int} {hs ss : List Int} (h : rgErr r = 0) (h2 : x < 0 ∨ (r.Points.length : Int) ≤ x) : repErr r x hs ss = 6 := by unfold repErr; rw [if_neg (fun hn => hn h), if_pos h2]
theorem repErr_n {r : Rgn} {x : Int} {hs ss : List Int} (h : rgErr r = 0) (h2 : ¬ (x < 0 ∨ (r.Points.length : Int) ≤ x)) (h3 : nodErr r.Points.length r.D x hs ≠ 0) : repErr r x hs ss = nodErr r.Points.length r.D x hs := by unfold repErr; rw [if_neg (fun hn => hn h), if_neg h2, if_pos h3]
theorem repErr_l {r : Rgn} {x : Int} {hs ss : List Int} (h : rgErr r = 0) (h2 : ¬ (x < 0 ∨ (r.Points.length : Int) ≤ x)) (h3 : nodErr r.Points.length r.D x hs = 0) : repErr r x hs ss = lenErr r.F ss r.D := by unfold repErr; rw [if_neg (fun hn => hn h), if_neg h2, if_neg (fun hn => hn h3)]
theorem repV_no {r : Rgn} {x : Int} {hs ss : List Int} (h : repErr r x hs ss ≠ 0) : repV r x hs ss = [] := if_neg h
theorem repV_ok {r : Rgn} {x : Int} {hs ss : List Int} (h : repErr r x hs ss = 0) : repV r x hs ss = repU r x hs ss := if_pos h
theorem repU_0 {r : Rgn} {x : Int} {hs ss : List Int} (h : r.Kind = 0) : repU r x hs ss = repZ r hs ss := if_pos h
theorem repU_1 {r : Rgn} {x : Int} {hs ss : List Int} (h : r.Kind ≠ 0) : repU r x hs ss = addTo r.F ((repZ r hs ss).take (rgA r).toNat) (powF r.F (ix 0 r.Points x) (rgA r)) ((repZ r hs ss).drop (rgA r).toNat) := if_neg h
end Go.Cw
namespace Go.Cw
end Go.Cw


set_option linter.unusedVariables false
set_option linter.unusedSimpArgs false
set_option linter.unusedSectionVars false
namespace Go.Cw
/-- Where the entries of row i begin, behind the symmetric part. -/
def bI (K D i : Int) : Int := tri K K.toNat + i * (D - K)
theorem bI_zero (K D : Int) : bI K D 0 = tri K K.toNat := by unfold bI; omega
theorem bI_succ (K D i : Int) : bI K D (i + 1) = bI K D i + (D - K) := by unfold bI; rw [Int.add_mul]; omega
theorem bI_mono {K D : Int} (hK : K ≤ D) : ∀ (n : Nat) (i : Int), bI K D i ≤ bI K D (i + n)
  | 0, i => by rw [show i + ((0 : Nat) : Int) = i by omega]; exact Int.le_refl _
  | n + 1, i => by
    have := bI_mono hK n i
    rw [show i + ((n + 1 : Nat) : Int) = i + n + 1 by omega, bI_succ]; omega
theorem bI_lt {K D i j : Int} (hK : 0 ≤ K) (hKD : K ≤ D) (i0 : 0 ≤ i) (i1 : i < K) (j0 : K ≤ j) (j1 : j < D) : 0 ≤ bI K D i + (j - K) ∧ bI K D i + (j - K) < bI K D K := by
  have t0 := tri_nonneg (n := K) K.toNat (by omega)
  have m0 := bI_mono hKD i.toNat 0
  rw [bI_zero, show (0 : Int) + (i.toNat : Int) = i by omega] at m0
  have m1 := bI_mono hKD (K - (i + 1)).toNat (i + 1)
  rw [show i + 1 + ((K - (i + 1)).toNat : Int) = K by omega, bI_succ] at m1
  omega
/-- The message matrix of the other kind, as far as it is filled. -/
def brE (l : List Int) (K D i j p q : Int) : Int := if min p q < K ∧ K ≤ max p q ∧ (min p q < i ∨ (min p q = i ∧ max p q < j)) then ix 0 l (bI K D (min p q) + (max p q - K)) else symE l K K K p q
theorem brE_zero (l : List Int) (K D : Int) : mkM D D (symE l K K K) = mkM D D (brE l K D 0 K) :=
  mkM_congr fun p q p0 p1 q0 q1 => by unfold brE; rw [if_neg]; omega
theorem brE_row (l : List Int) (K D i : Int) : mkM D D (brE l K D i D) = mkM D D (brE l K D (i + 1) K) :=
  mkM_congr fun p q p0 p1 q0 q1 => by
    unfold brE
    by_cases h : min p q < K ∧ K ≤ max p q ∧ (min p q < i ∨ (min p q = i ∧ max p q < D))
    · rw [if_pos h, if_pos (by omega)]
    · rw [if_neg h, if_neg (by omega)]
theorem brE_step {l : List Int} {K D i j : Int} {x : Int} (h0 : 0 ≤ i) (h1 : i < K) (h2 : K ≤ j) (h3 : j < D) (hx : x = ix 0 l (bI K D i + (j - K))) :
    ((mkM D D (brE l K D i j)).set i.toNat ((ix [] (mkM D D (brE l K D i j)) i).set j.toNat x)).set j.toNat ((ix [] ((mkM D D (brE l K D i j)).set i.toNat ((ix [] (mkM D D (brE l K D i j)) i).set j.toNat x)) j).set i.toNat x) = mkM D D (brE l K D i (j + 1)) := by
  rw [mkM_set _ x h0 (by omega) (by omega) (by omega), mkM_set _ x (by omega) (by omega) h0 (by omega)]
  refine mkM_congr fun p q p0 p1 q0 q1 => ?_
  by_cases ha : p = j ∧ q = i
  · rw [if_pos ha, hx]
    unfold brE
    rw [if_pos (by omega), show min p q = i by omega, show max p q = j by omega]
  · rw [if_neg ha]
    by_cases hb : p = i ∧ q = j
    · rw [if_pos hb, hx]
      unfold brE
      rw [if_pos (by omega), show min p q = i by omega, show max p q = j by omega]
    · rw [if_neg hb]
      unfold brE
      by_cases hc : min p q < K ∧ K ≤ max p q ∧ (min p q < i ∨ (min p q = i ∧ max p q < j))
      · rw [if_pos hc, if_pos (by omega)]
      · rw [if_neg hc, if_neg (by omega)]
/-- The message matrix. -/
def msgR (r : Rgn) (l : List Int) : List (List Int) :=
  if r.Kind = 1 then mkM (rgA r) (rgA r) (symE l (rgA r) (rgA r) (rgA r)) ++ mkM (rgA r) (rgA r) (symE (l.drop (tri (rgA r) (rgA r).toNat).toNat) (rgA r) (rgA r) (rgA r)) else mkM r.D r.D (brE l r.K r.D r.K r.K)
theorem rgB_0 {r : Rgn} (h : r.Kind = 0) (hK : 0 ≤ r.K) : rgB r = bI r.K r.D r.K := by
  have := tri_two r.K r.K.toNat
  rw [show ((r.K.toNat : Nat) : Int) = r.K by omega] at this
  unfold rgB bI
  rw [if_pos h]
  have e1 : r.K * (2 * r.K - r.K + 1) = r.K * r.K + r.K := by grind
  have e2 : r.K * (r.K - 1) = r.K * r.K - r.K := by grind
  have e3 : r.K * (r.D - r.K) = r.K * r.D - r.K * r.K := by grind
  rw [e1] at this
  rw [e2, e3]
  generalize r.K * r.K = s at *
  generalize r.K * r.D = t at *
  omega
theorem rgB_1 {r : Rgn} (h : r.Kind = 1) (hK : 1 ≤ r.K) : rgB r = 2 * tri (rgA r) (rgA r).toNat := by
  have hA : rgA r = r.K - 1 := by unfold rgA; rw [if_neg (by omega)]
  have := tri_two (rgA r) (rgA r).toNat
  rw [show (((rgA r).toNat : Nat) : Int) = rgA r by omega] at this
  unfold rgB
  rw [if_neg (by omega), this, hA]
  grind
structure EncF (r : Rgn) (l : List Int) : Prop where
  d : 1 ≤ r.D ∧ r.D ≤ 63
  a : 1 ≤ rgA r ∧ rgA r ≤ 63
  k : 1 ≤ r.K ∧ r.K ≤ r.D + 1
  k0 : r.Kind = 0 → r.K ≤ r.D ∧ rgA r = r.D ∧ (l.length : Int) = bI r.K r.D r.K ∧ tri r.K r.K.toNat ≤ l.length
  k1 : r.Kind = 1 → rgA r = r.K - 1 ∧ r.D = 2 * rgA r ∧ (l.length : Int) = 2 * tri (rgA r) (rgA r).toNat ∧ 0 ≤ tri (rgA r) (rgA r).toNat
  kk : r.Kind = 0 ∨ r.Kind = 1
theorem enc_facts {r : Rgn} {l : List Int} (R : RgOk r) (hl : (l.length : Int) = rgB r) : EncF r l := by
  have hA := rgA_le R
  have hr := R.rng
  have hn := R.len
  unfold rgBad at hr
  have hk : 1 ≤ r.K := by omega
  have hA1 : r.Kind = 1 → rgA r = r.K - 1 := fun h => by unfold rgA; rw [if_neg (by omega)]
  have hA0 : r.Kind = 0 → rgA r = r.D := fun h => by unfold rgA; rw [if_pos h]
  refine ⟨⟨hA.1, hA.2.1⟩, ?_, by omega, fun h => ?_, fun h => ?_, by omega⟩
  · by_cases h : r.Kind = 0
    · have := hA0 h; omega
    · have := hA1 (by omega); omega
  · have hb := rgB_0 h (by omega)
    have m := bI_mono (K := r.K) (D := r.D) (by omega) r.K.toNat 0
    rw [bI_zero, show (0 : Int) + (r.K.toNat : Int) = r.K by omega] at m
    exact ⟨by omega, hA0 h, by omega, by omega⟩
  · have hb := rgB_1 h hk
    have := hA1 h
    exact ⟨this, by omega, by omega, tri_nonneg _ (by omega)⟩
theorem length_msgR {r : Rgn} {l : List Int} (E : EncF r l) : ((msgR r l).length : Int) = r.D := by
  have hd := E.d; have ha := E.a
  unfold msgR
  split
  · rename_i h
    have := E.k1 h
    rw [List.length_append, length_mkM, length_mkM]; omega
  · rw [length_mkM]; omega
theorem rgB_rng {r : Rgn} (R : RgOk r) : 0 ≤ rgB r ∧ rgB r ≤ 100000 := by
  have hr := R.rng
  have hn := R.len
  unfold rgBad at hr
  have hK : 0 ≤ r.K ∧ r.K ≤ 64 := by omega
  have hD : 0 ≤ r.D ∧ r.D ≤ 64 := by omega
  have e1 : r.K * r.D ≤ 64 * 64 := Int.mul_le_mul hK.2 hD.2 hD.1 (by omega)
  have e2 : r.K * (r.K - 1) ≤ 64 * 64 := by
    by_cases h : r.K = 0
    · rw [h]; decide
    · exact Int.mul_le_mul hK.2 (by omega) (by omega) (by omega)
  have e3 : 0 ≤ r.K * (r.K - 1) := by
    by_cases h : r.K = 0
    · rw [h]; decide
    · exact Int.mul_nonneg (by omega) (by omega)
  by_cases h0 : r.Kind = 0
  · have hb := rgB_0 h0 (by omega)
    have m := bI_mono (K := r.K) (D := r.D) (by omega) r.K.toNat 0
    rw [bI_zero, show (0 : Int) + (r.K.toNat : Int) = r.K by omega] at m
    have t0 := tri_nonneg (n := r.K) r.K.toNat (by omega)
    refine ⟨by omega, ?_⟩
    unfold rgB
    rw [if_pos h0]
    omega
  · unfold rgB
    rw [if_neg h0]
    omega
noncomputable def encErr (r : Rgn) (l : List Int) : Int := if rgErr r = 0 then lenErr r.F l (rgB r) else rgErr r
def encW (r : Rgn) (l : List Int) : List (List Int) := (mulM r.F ⟨r.D, vdm r.F r.Points r.D⟩ ⟨rgA r, msgR r l⟩).rows
noncomputable def encR (r : Rgn) (l : List Int) : List (List Int) := if encErr r l = 0 then encW r l else []
theorem encErr_1 {r : Rgn} {l : List Int} (h : rgErr r ≠ 0) : encErr r l = rgErr r := if_neg h
theorem encErr_l {r : Rgn} {l : List Int} (h : rgErr r = 0) : encErr r l = lenErr r.F l (rgB r) := if_pos h
theorem encR_no {r : Rgn} {l : List Int} (h : encErr r l ≠ 0) : encR r l = [] := if_neg h
theorem encR_ok {r : Rgn} {l : List Int} (h : encErr r l = 0) : encR r l = encW r l := if_pos h
theorem msg_good {r : Rgn} {l : List Int} (hS : Shape r.F) (hl : ¬ outF r.F l) : good r.F (rgA r).toNat (msgR r l) ∨ r.Kind ≠ 1 ∧ good r.F r.D.toNat (msgR r l) := by
  have z : 0 ≤ (0 : Int) ∧ (0 : Int) < r.F.q := by have := hS.bd; omega
  have hsy : ∀ (l : List Int) (n i j p q : Int), ¬ outF r.F l → 0 ≤ symE l n i j p q ∧ symE l n i j p q < r.F.q := fun l n i j p q h => by
    unfold symE; split
    · exact ix_ok hS h _
    · exact z
  have hbr : ∀ (K D i j p q : Int), 0 ≤ brE l K D i j p q ∧ brE l K D i j p q < r.F.q := fun K D i j p q => by
    unfold brE; split
    · exact ix_ok hS hl _
    · exact hsy _ _ _ _ _ _ hl
  have hm : ∀ (R C : Int) (g : Int → Int → Int), (∀ i j, 0 ≤ g i j ∧ g i j < r.F.q) → good r.F C.toNat (mkM R C g) := fun R C g hg x hx => by
    unfold mkM at hx
    obtain ⟨v, _, _, rfl⟩ := mem_mapR hx
    exact ⟨length_mapR _ _, outF_mapR fun i _ _ => hg v i⟩
  have hdr : ¬ outF r.F (l.drop (tri (rgA r) (rgA r).toNat).toNat) := fun ⟨x, hx, hb⟩ => hl ⟨x, List.mem_of_mem_drop hx, hb⟩
  unfold msgR
  split
  · left
    intro x hx
    rcases List.mem_append.1 hx with h | h
    · exact hm _ _ _ (fun i j => hsy _ _ _ _ _ _ hl) x h
    · exact hm _ _ _ (fun i j => hsy _ _ _ _ _ _ hdr) x h
  · rename_i h1
    exact .inr ⟨h1, hm _ _ _ fun i j => hbr _ _ _ _ _ _⟩
theorem msg_err {r : Rgn} {l : List Int} (R : RgOk r) (E : EncF r l) (hl : ¬ outF r.F l) : matErr r.F ⟨rgA r, msgR r l⟩ = 0 := by
  have hd := E.d; have ha := E.a; have hn := length_msgR E
  refine good_mat (by show 0 ≤ rgA r; omega) (by show rgA r ≤ 256; omega) (by show (msgR r l).length ≤ 256; omega) ?_
  rcases msg_good R.fld.1 hl with h | ⟨h1, h⟩
  · exact h
  · have := E.k0 (by have := E.kk; omega)
    show good r.F (rgA r).toNat _
    rw [this.2.1]; exact h
theorem vdm_merr {r : Rgn} (R : RgOk r) : matErr r.F ⟨r.D, vdm r.F r.Points r.D⟩ = 0 := by
  have hA := rgA_le R
  have hn := R.len
  exact (mErr_zero.1 (vdm_err R.fld (xs := r.Points) (n := r.D) (by omega) (by omega) (by omega))).2
theorem lenErr_out {f : Fld} {l : List Int} {n : Int} (h : lenErr f l n = 0) : ¬ outF f l := by
  have hl := lenErr_len h
  unfold lenErr at h
  rw [if_neg (by omega)] at h
  exact entErr_zero.1 h
section
variable {r : Rgn} (R : RgOk r) {F G : List Int} (hF : (F.length : Int) = rgB r) (hG : (G.length : Int) = rgB r)
include hF hG
theorem enc_len : ((encW r F).length : Int) = r.Points.length := by
  unfold encW; rw [length_mulM, length_vdm]
include R in
theorem enc_row (hFo : ¬ outF r.F F) {i : Int} (i0 : 0 ≤ i) (i1 : i < r.Points.length) : ((ix [] (encW r F) i).length : Int) = rgA r ∧ ¬ outF r.F (ix [] (encW r F) i) := by
  have E := enc_facts R hF
  have ha := E.a
  have g := mul_good R.fld (⟨r.D, vdm r.F r.Points r.D⟩ : Mat) (⟨rgA r, msgR r F⟩ : Mat) rfl
  have hl : (encW r F).length = r.Points.length := by unfold encW; rw [length_mulM, length_vdm]
  have := g _ (ix_mem' (l := encW r F) i0 (by omega))
  exact ⟨by rw [this.1]; show (((rgA r).toNat : Nat) : Int) = rgA r; omega, this.2⟩
include R in
end
def fileL (r : Rgn) (l : List Int) : List Int := mapR (fun i => if i < l.length then inF r.F (ix 0 l i) else 0) (rgB r)
theorem length_fileL (r : Rgn) (l : List Int) : (fileL r l).length = (rgB r).toNat := by unfold fileL; rw [length_mapR]
theorem ix_fileL {r : Rgn} {l : List Int} {i : Int} (h0 : 0 ≤ i) (h1 : i < rgB r) (h2 : i < l.length) : ix 0 (fileL r l) i = inF r.F (ix 0 l i) := by
  unfold fileL; rw [ix_mapR 0 _ h0 h1, if_pos h2]
theorem file_end {r : Rgn} {l : List Int} {i : Int} (h0 : 0 ≤ i) (h1 : i ≤ rgB r) (h : ¬ (i < rgB r ∧ i < l.length)) : mixL (fileL r l) (List.replicate (rgB r).toNat 0) i = fileL r l := by
  have hl := length_fileL r l
  by_cases e : i < rgB r
  · refine ext_ix 0 (by rw [length_mixL _ _ (by simp [hl])]; simp [hl]) fun j j0 j1 => ?_
    rw [length_mixL _ _ (by simp [hl])] at j1
    simp only [List.length_replicate] at j1
    have hm : mixL (fileL r l) (List.replicate (rgB r).toNat 0) i = (fileL r l).take i.toNat ++ (List.replicate (rgB r).toNat 0).drop i.toNat := rfl
    rw [hm]
    have ht : ((fileL r l).take i.toNat).length = i.toNat := by rw [List.length_take]; omega
    by_cases hj : j < i
    · rw [ix_appl j0 (by omega), ix_take _ j0 hj]
    · rw [ix_appr (by omega), ht]
      unfold fileL
      rw [ix_mapR 0 _ j0 (by omega), if_neg (by omega)]
      simp only [ix, List.getD]
      rw [List.getElem?_drop, List.getElem?_replicate]
      split <;> rfl
  · exact mixL_all _ _ (by rw [hl]; omega) (by simp; omega)
theorem file_out {r : Rgn} (hS : Shape r.F) (l : List Int) : ¬ outF r.F (fileL r l) := outF_mapR fun i _ _ => by
  have hb := hS.bd
  have := inF_lt hS (ix 0 l i)
  split
  · exact this
  · omega
theorem file_err {r : Rgn} (R : RgOk r) (l : List Int) : encErr r (fileL r l) = 0 := by
  have hb := rgB_rng R
  rw [encErr_l (rgErr_zero.2 R)]
  unfold lenErr
  rw [if_neg (by rw [length_fileL]; omega)]
  exact entErr_zero.2 (file_out R.fld.1 l)
end Go.Cw


set_option linter.unusedVariables false
set_option linter.unusedSimpArgs false
set_option linter.unusedSectionVars false
namespace Go.Cw
theorem msg_wid {r : Rgn} {l : List Int} (E : EncF r l) {i : Int} (i0 : 0 ≤ i) (i1 : i < (msgR r l).length) : ((ix [] (msgR r l) i).length : Int) = rgA r := by
  have ha := E.a; have hd := E.d; have hn := length_msgR E
  by_cases h1 : r.Kind = 1
  · have q := E.k1 h1
    have e : msgR r l = mkM (rgA r) (rgA r) (symE l (rgA r) (rgA r) (rgA r)) ++ mkM (rgA r) (rgA r) (symE (l.drop (tri (rgA r) (rgA r).toNat).toNat) (rgA r) (rgA r) (rgA r)) := if_pos h1
    rw [e]
    by_cases hi : i < rgA r
    · have : ix [] (mkM (rgA r) (rgA r) (symE l (rgA r) (rgA r) (rgA r)) ++ mkM (rgA r) (rgA r) (symE (l.drop (tri (rgA r) (rgA r).toNat).toNat) (rgA r) (rgA r) (rgA r))) i = ix [] (mkM (rgA r) (rgA r) (symE l (rgA r) (rgA r) (rgA r))) i := by
        simp only [ix, List.getD]; rw [List.getElem?_append_left (by rw [length_mkM]; omega)]
      rw [this, ixlen_mkM _ i0 hi]; omega
    · have : ix [] (mkM (rgA r) (rgA r) (symE l (rgA r) (rgA r) (rgA r)) ++ mkM (rgA r) (rgA r) (symE (l.drop (tri (rgA r) (rgA r).toNat).toNat) (rgA r) (rgA r) (rgA r))) i = ix [] (mkM (rgA r) (rgA r) (symE (l.drop (tri (rgA r) (rgA r).toNat).toNat) (rgA r) (rgA r) (rgA r))) (i - rgA r) := by
        simp only [ix, List.getD]; rw [List.getElem?_append_right (by rw [length_mkM]; omega), length_mkM]; congr 2; omega
      rw [this, ixlen_mkM _ (by omega) (by omega)]; omega
  · have q := E.k0 (by have := E.kk; omega)
    have e : msgR r l = mkM r.D r.D (brE l r.K r.D r.K r.K) := if_neg h1
    rw [e, ixlen_mkM _ i0 (by omega)]; omega
end Go.Cw


set_option linter.unusedVariables false
set_option linter.unusedSimpArgs false
set_option linter.unusedSectionVars false
namespace Go.Cw
theorem symE_comm (l : List Int) (n i j p q : Int) : symE l n i j p q = symE l n i j q p := by
  unfold symE
  rw [show min p q = min q p by omega, show max p q = max q p by omega]
  by_cases h : p < n ∧ q < n ∧ (min q p < i ∨ (min q p = i ∧ max q p < j))
  · rw [if_pos h, if_pos ⟨h.2.1, h.1, h.2.2⟩]
  · rw [if_neg h, if_neg (fun h2 => h ⟨h2.2.1, h2.1, h2.2.2⟩)]
theorem brE_comm (l : List Int) (K D i j p q : Int) : brE l K D i j p q = brE l K D i j q p := by
  unfold brE
  rw [show min p q = min q p by omega, show max p q = max q p by omega, symE_comm]
theorem La.sm_split {K : Type} [Fi K] (g : Nat → K) (a : Nat) : ∀ b : Nat, La.sm g (a + b) = La.sm g a + La.sm (fun i => g (a + i)) b
  | 0 => (Fi.add_zero _).symm
  | b + 1 => by
    show La.sm g (a + b) + g (a + b) = La.sm g a + (La.sm (fun i => g (a + i)) b + g (a + b))
    rw [La.sm_split g a b, Fi.add_assoc]
section
variable {f : Fld} (h : FOk f)
include h in
/-- A word is told by its products with powers of distinct elements. -/
theorem vdm_uniq {xs : List Int} {n : Nat} (hx : ∀ x ∈ xs, 0 ≤ x ∧ x < f.q) (hn : xs.Nodup) (hl : xs.length = n) (hq : (n : Int) ≤ f.q - 1) {y z : List Int} (hy : y.length = n) (hz : z.length = n) (hyo : ¬ outF f y) (hzo : ¬ outF f z)
    (e : ∀ x ∈ xs, dotF f (powsF f x n) y = dotF f (powsF f x n) z) : y = z := by
  let L : List (KF f h) := (List.range n).map fun j => kv h y j + -(kv h z j)
  have hLl : L.length = n := by simp [L]
  have hget : ∀ j, j < n → L.getD j 0 = kv h y j + -(kv h z j) := fun j hj => by simp [L, List.getD, hj]
  have hroots : ∀ r ∈ xs.map (ke h), Fi.ev L r = 0 := fun r hr => by
    obtain ⟨x, hxx, rfl⟩ := List.mem_map.1 hr
    have hp : (powsF f x (n : Int)).length ≤ n := by rw [show (powsF f x (n : Int)).length = ((n : Int)).toNat from length_mapR _ _]; omega
    have e1 := ke_dot h (powsF f x (n : Int)) y hp
    have e2 := ke_dot h (powsF f x (n : Int)) z hp
    rw [e x hxx, e2] at e1
    rw [La.ev_sm, hLl]
    have hpw : ∀ j, j < n → kv h (powsF f x (n : Int)) j = Fi.pow (ke h x) j := fun j hj => by
      rw [kv_ix]
      unfold powsF
      rw [ix_mapR 0 _ (by omega) (by omega), ke_powF h (hx x hxx).1 (hx x hxx).2 (by omega) (by omega)]
      congr 1
    have e3 : La.sm (fun j => L.getD j 0 * Fi.pow (ke h x) j) n = La.sm (fun j => kv h (powsF f x (n : Int)) j * kv h y j) n + -(La.sm (fun j => kv h (powsF f x (n : Int)) j * kv h z j) n) := by
      have e4 : -(La.sm (fun j => kv h (powsF f x (n : Int)) j * kv h z j) n) = La.sm (fun j => -1 * (kv h (powsF f x (n : Int)) j * kv h z j)) n := by
        rw [La.sm_mul, Fi.neg_mul, Fi.one_mul]
      rw [e4, ← La.sm_add]
      refine La.sm_congr fun j hj => ?_
      rw [hget j hj, hpw j hj, Fi.add_mul, Fi.neg_mul, Fi.neg_mul, Fi.one_mul]
      congr 1
      · exact Fi.mul_comm _ _
      · rw [Fi.mul_comm]
    rw [e3, e1, Fi.add_neg]
  have hall : ∀ j, j < n → kv h y j = kv h z j := fun j hj => Classical.byContradiction fun hne => by
    have hnz : ∃ c ∈ L, c ≠ 0 := by
      refine ⟨kv h y j + -(kv h z j), List.mem_map.2 ⟨j, List.mem_range.2 hj, rfl⟩, fun h0 => hne ?_⟩
      have := congrArg (fun t => t + kv h z j) h0
      simp only [Fi.zero_add] at this
      rw [Fi.add_assoc, Fi.add_comm (-(kv h z j)), Fi.add_neg, Fi.add_zero] at this
      exact this
    have := Fi.roots_lt L.length L (Nat.le_refl _) hnz (xs.map (ke h)) (ke_map_nodup h hx hn) hroots
    rw [List.length_map, hLl] at this
    omega
  exact kv_ext h hyo hzo (by omega) fun j hj => hall j (by omega)
end
/-- The word that the helpers' symbols tell of. -/
def resX (r : Rgn) (F : List Int) (x : Int) : List Int := dots r.F (msgR r F) (powsF r.F (ix 0 r.Points x) r.D)
noncomputable def resS (r : Rgn) (F : List Int) (x : Int) (hs : List Int) : List Int := hs.map fun i => helpF r x (ix [] (encW r F) i)
@[simp] theorem length_resS (r : Rgn) (F : List Int) (x : Int) (hs : List Int) : (resS r F x hs).length = hs.length := by simp [resS]
structure ResF (r : Rgn) (F : List Int) (x : Int) (hs : List Int) : Prop where
  e : repErr r x hs (resS r F x hs) = 0
  v : repV r x hs (resS r F x hs) = ix [] (encW r F) x
  l : ((ix [] (encW r F) x).length : Int) = rgA r
theorem help_zero {r : Rgn} (R : RgOk r) {F : List Int} (hF : (F.length : Int) = rgB r) (hFo : ¬ outF r.F F) {x i : Int} (x0 : 0 ≤ x) (x1 : x < r.Points.length) (i0 : 0 ≤ i) (i1 : i < r.Points.length) :
    helpErr r x (ix [] (encW r F) i) = 0 ∧ helpF r x (ix [] (encW r F) i) = dotF r.F (ix [] (encW r F) i) (powsF r.F (ix 0 r.Points x) r.D) := by
  have w := enc_row R hF hF hFo i0 i1
  have he : helpErr r x (ix [] (encW r F) i) = 0 := by
    unfold helpErr
    rw [if_neg (fun hn => hn (rgErr_zero.2 R)), if_neg (by omega)]
    unfold lenErr
    rw [if_neg (by omega)]
    exact entErr_zero.2 w.2
  exact ⟨he, by unfold helpF; rw [if_pos he]⟩
theorem res_facts {r : Rgn} (R : RgOk r) {F : List Int} (hF : (F.length : Int) = rgB r) (hFo : ¬ outF r.F F) {x : Int} {hs : List Int} (x0 : 0 ≤ x) (x1 : x < r.Points.length) (hn : nodErr r.Points.length r.D x hs = 0) : ResF r F x hs := by
  have h := R.fld
  have hS := h.1
  have E := enc_facts R hF
  have hd := E.d; have ha := E.a; have hN := R.len
  obtain ⟨a1, a2, a3⟩ := nodErr_zero hn
  have hnm := length_msgR E
  have hrng := R.rng
  have hpx : ∀ y ∈ r.Points, 0 ≤ y ∧ y < r.F.q := fun y hy => outF_no R.elt hy
  have hpq : (r.Points.length : Int) ≤ r.F.q := by
    have := nodup_lt_length r.F.q.toNat r.Points R.nodup (fun y hy => by have := hpx y hy; have := hS.bd; omega)
    have := hS.bd; omega
  have hd1 : r.D ≤ (r.Points.length : Int) - 1 := by unfold rgBad at hrng; omega
  have hi : ∀ i ∈ hs, 0 ≤ i ∧ i < r.Points.length := fun i hi => ⟨(a2 i hi).1, (a2 i hi).2.1⟩
  have hx : ∀ y ∈ pickL r.Points hs, 0 ≤ y ∧ y < r.F.q := fun y hy => by
    obtain ⟨i, h4, rfl⟩ := List.mem_map.1 hy
    exact hpx _ (ix_mem 0 r.Points (hi i h4).1 (hi i h4).2)
  have hpl : (pickL r.Points hs).length = hs.length := by simp [pickL]
  have hpn := pick_nodup R.nodup hi a3
  have hxx := hpx _ (ix_mem 0 r.Points x0 x1)
  have hv := vdm_merr R
  have hmm := msg_err R E hFo
  have hD2 : (msgR r F).length = r.D.toNat := by omega
  -- entries
  have hrowl : ∀ q : Nat, q < r.D.toNat → (ix [] (msgR r F) (q : Int)).length = (rgA r).toNat := fun q hq => by
    have := msg_wid E (i := (q : Int)) (by omega) (by omega); omega
  have kp : ∀ (y : Int) (q : Nat), q < r.D.toNat → 0 ≤ y → y < r.F.q → kv h (powsF r.F y r.D) q = Fi.pow (ke h y) q := fun y q hq y0 y1 => by
    rw [kv_ix]
    unfold powsF
    rw [ix_mapR 0 _ (by omega) (by omega), ke_powF h y0 y1 (by omega) (by omega)]
    congr 1
  have kc : ∀ (i : Int) (j : Nat), 0 ≤ i → i < r.Points.length → kv h (ix [] (encW r F) i) j = La.sm (fun q => kv h (powsF r.F (ix 0 r.Points i) r.D) q * km h (msgR r F) q j) r.D.toNat := fun i j i0 i1 => by
    have hit : i.toNat < (⟨r.D, vdm r.F r.Points r.D⟩ : Mat).rows.length := by show i.toNat < (vdm r.F r.Points r.D).length; rw [length_vdm]; omega
    have := km_mulE h hv hmm hnm.symm hit j
    rw [km_at, show ((i.toNat : Nat) : Int) = i by omega, show (⟨rgA r, msgR r F⟩ : Mat).rows.length = r.D.toNat from hD2] at this
    rw [show kv h (ix [] (encW r F) i) j = _ from this]
    refine La.sm_congr fun q _ => ?_
    congr 1
    show km h (vdm r.F r.Points r.D) i.toNat q = _
    rw [km_at, show ((i.toNat : Nat) : Int) = i by omega]
    unfold vdm
    rw [ix_map _ r.Points 0 [] i0 i1]
  have hXl : (resX r F x).length = r.D.toNat := by unfold resX; rw [length_dots]; exact hD2
  have hXo : ¬ outF r.F (resX r F x) := out_dots hS _ _
  have kx : ∀ q : Nat, q < r.D.toNat → kv h (resX r F x) q = La.sm (fun j => km h (msgR r F) q j * kv h (powsF r.F (ix 0 r.Points x) r.D) j) (rgA r).toNat := fun q hq => by
    rw [kv_ix]
    unfold resX
    rw [ix_dots (by omega) (by omega), ke_dot h _ _ (n := (rgA r).toNat) (by rw [hrowl q hq]; exact Nat.le_refl _)]
    exact La.sm_congr fun j _ => by rw [km_at]
  -- the symbols are the products of the word with the helpers' powers
  have hsym : ∀ i : Int, 0 ≤ i → i < r.Points.length → dotF r.F (ix [] (encW r F) i) (powsF r.F (ix 0 r.Points x) r.D) = dotF r.F (powsF r.F (ix 0 r.Points i) r.D) (resX r F x) := fun i i0 i1 => by
    have w := enc_row R hF hF hFo i0 i1
    have r1 := dot_lt hS (ix [] (encW r F) i) (powsF r.F (ix 0 r.Points x) r.D)
    have r2 := dot_lt hS (powsF r.F (ix 0 r.Points i) r.D) (resX r F x)
    refine ke_inj h r1.1 r1.2 r2.1 r2.2 ?_
    rw [ke_dot h _ _ (n := (rgA r).toNat) (by omega), ke_dot h (powsF r.F (ix 0 r.Points i) r.D) _ (n := r.D.toNat) (by rw [show (powsF r.F (ix 0 r.Points i) r.D).length = r.D.toNat from length_mapR _ _]; exact Nat.le_refl _)]
    rw [La.sm_congr (h := fun j => La.sm (fun q => kv h (powsF r.F (ix 0 r.Points i) r.D) q * km h (msgR r F) q j * kv h (powsF r.F (ix 0 r.Points x) r.D) j) r.D.toNat) fun j _ => by rw [kc i j i0 i1, La.sm_mulR], La.sm_swap]
    refine La.sm_congr fun q hq => ?_
    rw [kx q hq, ← La.sm_mul]
    exact La.sm_congr fun j _ => Fi.mul_assoc _ _ _
  have hS2 : resS r F x hs = dots r.F (vdm r.F (pickL r.Points hs) r.D) (resX r F x) := by
    unfold resS dots vdm pickL
    rw [List.map_map, List.map_map]
    refine List.map_congr_left fun i hm => ?_
    show helpF r x (ix [] (encW r F) i) = dotF r.F (powsF r.F (ix 0 r.Points i) r.D) (resX r F x)
    rw [(help_zero R hF hFo x0 x1 (hi i hm).1 (hi i hm).2).2, hsym i (hi i hm).1 (hi i hm).2]
  have hm := vdm_err h (xs := pickL r.Points hs) (n := r.D) (by omega) (by omega) (by omega)
  have SF := sol_facts (m := ⟨r.D, vdm r.F (pickL r.Points hs) r.D⟩) (x := resX r F x) hm (vecErr_zero.2 ⟨by show ((resX r F x).length : Int) = r.D; omega, hXo⟩)
  have hso : ¬ outF r.F (resS r F x hs) := by rw [hS2]; exact out_dots hS _ _
  have hle : lenErr r.F (resS r F x hs) r.D = 0 := by
    unfold lenErr
    rw [if_neg (by rw [length_resS]; omega)]
    exact entErr_zero.2 hso
  have h0 := rgErr_zero.2 R
  have he : repErr r x hs (resS r F x hs) = 0 := by rw [repErr_l h0 (by omega) hn]; exact hle
  have RF := rep_facts h0 hn hle
  have hZ : repZ r hs (resS r F x hs) = resX r F x := by
    have e1 := RF.zl
    refine vdm_uniq h (n := r.D.toNat) hx hpn (by omega) (by omega) (by omega) hXl RF.zr hXo fun y hy => ?_
    obtain ⟨q, q0, q1, rfl⟩ := mem_ix 0 hy
    have := SF.dot q q0 (by show q < (vdm r.F (pickL r.Points hs) r.D).length; rw [length_vdm]; exact q1)
    rw [ix_dots q0 (by show q < (vdm r.F (pickL r.Points hs) r.D).length; rw [length_vdm]; exact q1)] at this
    have hrow : ix [] (⟨r.D, vdm r.F (pickL r.Points hs) r.D⟩ : Mat).rows q = powsF r.F (ix 0 (pickL r.Points hs) q) r.D := by
      show ix [] (vdm r.F (pickL r.Points hs) r.D) q = _
      unfold vdm
      exact ix_map _ (pickL r.Points hs) 0 [] q0 q1
    rw [hrow] at this
    rw [show ((r.D.toNat : Nat) : Int) = r.D by omega]
    unfold repZ
    rw [hS2]
    exact this
  have w := enc_row R hF hF hFo x0 x1
  refine ⟨he, ?_, w.1⟩
  rw [repV_ok he]
  by_cases hk : r.Kind = 0
  · have q := E.k0 hk
    rw [repU_0 hk, hZ]
    refine kv_ext h hXo w.2 (by omega) fun j hj => ?_
    rw [kx j (by omega), kc x j x0 x1, show (rgA r).toNat = r.D.toNat by omega]
    refine La.sm_congr fun q hq => ?_
    rw [Fi.mul_comm]
    congr 1
    rw [km_ix, km_ix]
    have hmk : msgR r F = mkM r.D r.D (brE F r.K r.D r.K r.K) := if_neg (by omega)
    rw [hmk, ix2_mkM _ (by omega) (by omega) (by omega) (by omega), ix2_mkM _ (by omega) (by omega) (by omega) (by omega), brE_comm]
  · have hk1 : r.Kind = 1 := by have := E.kk; omega
    have q := E.k1 hk1
    have hmk : msgR r F = mkM (rgA r) (rgA r) (symE F (rgA r) (rgA r) (rgA r)) ++ mkM (rgA r) (rgA r) (symE (F.drop (tri (rgA r) (rgA r).toNat).toNat) (rgA r) (rgA r) (rgA r)) := if_pos hk1
    have m1 : ∀ i j : Nat, i < (rgA r).toNat → j < (rgA r).toNat → km h (msgR r F) i j = ke h (symE F (rgA r) (rgA r) (rgA r) i j) := fun i j hi hj => by
      rw [km_ix, hmk]
      have : ix [] (mkM (rgA r) (rgA r) (symE F (rgA r) (rgA r) (rgA r)) ++ mkM (rgA r) (rgA r) (symE (F.drop (tri (rgA r) (rgA r).toNat).toNat) (rgA r) (rgA r) (rgA r))) (i : Int) = ix [] (mkM (rgA r) (rgA r) (symE F (rgA r) (rgA r) (rgA r))) (i : Int) := by
        simp only [ix, List.getD]; rw [List.getElem?_append_left (by rw [length_mkM]; omega)]
      rw [this, ix2_mkM _ (by omega) (by omega) (by omega) (by omega)]
    have m2 : ∀ i j : Nat, i < (rgA r).toNat → j < (rgA r).toNat → km h (msgR r F) ((rgA r).toNat + i) j = ke h (symE (F.drop (tri (rgA r) (rgA r).toNat).toNat) (rgA r) (rgA r) (rgA r) i j) := fun i j hi hj => by
      rw [km_ix, hmk]
      have : ix [] (mkM (rgA r) (rgA r) (symE F (rgA r) (rgA r) (rgA r)) ++ mkM (rgA r) (rgA r) (symE (F.drop (tri (rgA r) (rgA r).toNat).toNat) (rgA r) (rgA r) (rgA r))) (((rgA r).toNat + i : Nat) : Int) = ix [] (mkM (rgA r) (rgA r) (symE (F.drop (tri (rgA r) (rgA r).toNat).toNat) (rgA r) (rgA r) (rgA r))) (i : Int) := by
        simp only [ix, List.getD]; rw [List.getElem?_append_right (by rw [length_mkM]; omega), length_mkM]; congr 2; omega
      rw [this, ix2_mkM _ (by omega) (by omega) (by omega) (by omega)]
    rw [repU_1 hk, hZ]
    have hD : r.D.toNat = (rgA r).toNat + (rgA r).toNat := by omega
    have lt : ((resX r F x).take (rgA r).toNat).length = (rgA r).toNat := by rw [List.length_take]; omega
    have ld : ((resX r F x).drop (rgA r).toNat).length = (rgA r).toNat := by rw [List.length_drop]; omega
    have hto : ¬ outF r.F ((resX r F x).take (rgA r).toNat) := fun ⟨y, hy, hb⟩ => hXo ⟨y, List.mem_of_mem_take hy, hb⟩
    refine kv_ext h (out_addTo hS hto _ _) w.2 (by rw [length_addTo]; omega) fun j hj => ?_
    rw [length_addTo, lt] at hj
    rw [kv_addTo h (by omega), kc x j x0 x1, hD, La.sm_split]
    have e1 : kv h ((resX r F x).take (rgA r).toNat) j = kv h (resX r F x) j := by
      unfold kv; simp only [List.getD]; rw [List.getElem?_take, if_pos hj]
    have e2 : kv h ((resX r F x).drop (rgA r).toNat) j = kv h (resX r F x) ((rgA r).toNat + j) := by
      unfold kv; simp only [List.getD]; rw [List.getElem?_drop]
    rw [e1, e2, kx j (by omega), kx _ (by omega)]
    congr 1
    · refine La.sm_congr fun q hq => ?_
      rw [m1 j q hj hq, m1 q j hq hj, symE_comm, Fi.mul_comm]
    · rw [← La.sm_mul]
      refine La.sm_congr fun q hq => ?_
      rw [m2 j q hj hq, m2 q j hq hj, symE_comm, kp _ q (by omega) hxx.1 hxx.2, kp _ ((rgA r).toNat + q) (by omega) hxx.1 hxx.2, Fi.pow_add, ke_powF h hxx.1 hxx.2 (by omega) (by omega)]
      ac_rfl
theorem resS_succ {r : Rgn} {F : List Int} {x : Int} {hs : List Int} {i : Int} (i0 : 0 ≤ i) (i1 : i < hs.length) : (resS r F x hs).take (i + 1).toNat = (resS r F x hs).take i.toNat ++ [helpF r x (ix [] (encW r F) (ix 0 hs i))] := by
  rw [take_succ_ix 0 (resS r F x hs) i0 (by rw [length_resS]; exact i1)]
  congr 2
  unfold resS
  exact ix_map _ hs 0 0 i0 i1
end Go.Cw

