/-
  Determinants.
-/
import Derived.Test.YtamhdlkfhhpdpaaPlainLin
set_option linter.unusedVariables false
set_option linter.unusedSimpArgs false
set_option linter.unusedSectionVars false
namespace Go.Cw
namespace La
variable {K : Type} [Fi K]
def sg (c : Nat) : K := if c % 2 = 1 then -1 else 1
def sk (c j : Nat) : Nat := if j < c then j else j + 1
/-- The determinant, by expansion along the first row. -/
def det : Nat → (Nat → Nat → K) → K
  | 0, _ => 1
  | n + 1, A => sm (fun c => sg c * (A 0 c * det n (fun i j => A (i + 1) (sk c j)))) (n + 1)
theorem det_succ (n : Nat) (A : Nat → Nat → K) : det (n + 1) A = sm (fun c => sg c * (A 0 c * det n (fun i j => A (i + 1) (sk c j)))) (n + 1) := rfl
theorem det_congr : ∀ {n : Nat} {A B : Nat → Nat → K}, (∀ i j, i < n → j < n → A i j = B i j) → det n A = det n B
  | 0, _, _, _ => rfl
  | n + 1, A, B, h => by
    rw [det_succ, det_succ]
    refine sm_congr fun c hc => ?_
    rw [h 0 c (by omega) hc, det_congr (n := n) (B := fun i j => B (i + 1) (sk c j)) fun i j hi hj => h (i + 1) (sk c j) (by omega) (by unfold sk; split <;> omega)]
/-- Linear in the column q. -/
theorem det_lin : ∀ {n : Nat} {A B C : Nat → Nat → K} (q : Nat) (x : K), q < n → (∀ i j, j ≠ q → C i j = A i j) → (∀ i j, j ≠ q → B i j = A i j) → (∀ i, C i q = A i q + x * B i q) → det n C = det n A + x * det n B
  | 0, _, _, _, q, x, hq, _, _, _ => by omega
  | n + 1, A, B, C, q, x, hq, hC, hB, hx => by
    rw [det_succ, det_succ, det_succ, ← sm_mul, ← sm_add]
    refine sm_congr fun c hc => ?_
    by_cases e : c = q
    · subst e
      have e1 : det n (fun i j => C (i + 1) (sk c j)) = det n (fun i j => A (i + 1) (sk c j)) := det_congr fun i j _ _ => hC _ _ (by unfold sk; split <;> omega)
      have e2 : det n (fun i j => B (i + 1) (sk c j)) = det n (fun i j => A (i + 1) (sk c j)) := det_congr fun i j _ _ => hB _ _ (by unfold sk; split <;> omega)
      rw [e1, e2, hx 0, Fi.add_mul, Fi.mul_add]
      congr 1
      ac_rfl
    · have hq' : (if q < c then q else q - 1) < n := by split <;> omega
      have hsk : ∀ j, sk c j = q ↔ j = (if q < c then q else q - 1) := fun j => by unfold sk; split <;> split <;> omega
      have ih := det_lin (n := n) (A := fun i j => A (i + 1) (sk c j)) (B := fun i j => B (i + 1) (sk c j)) (C := fun i j => C (i + 1) (sk c j)) (if q < c then q else q - 1) x hq'
        (fun i j hj => hC _ _ fun e => hj ((hsk j).1 e)) (fun i j hj => hB _ _ fun e => hj ((hsk j).1 e)) (fun i => by
          have e : sk c (if q < c then q else q - 1) = q := (hsk _).2 rfl
          show C (i + 1) (sk c _) = A (i + 1) (sk c _) + x * B (i + 1) (sk c _)
          rw [e]; exact hx _)
      rw [ih, hC 0 c e, hB 0 c e, Fi.mul_add, Fi.mul_add]
      congr 1
      ac_rfl
theorem sg_succ (c : Nat) : (sg (c + 1) : K) = -(sg c) := by
  unfold sg
  by_cases h : c % 2 = 1
  · rw [if_pos h, if_neg (by omega), Fi.neg_neg]
  · rw [if_neg h, if_pos (by omega)]
theorem sm_two {g : Nat → K} {q : Nat} : ∀ {n : Nat}, q + 1 < n → (∀ i, i < n → i ≠ q → i ≠ q + 1 → g i = 0) → sm g n = g q + g (q + 1)
  | n + 1, hq, h => by
    show sm g n + g n = _
    by_cases e : n = q + 1
    · subst e
      rw [sm_one (k := q) (by omega) fun i hi hne => h i (by omega) hne (by omega)]
    · rw [sm_two (q := q) (n := n) (by omega) fun i hi h1 h2 => h i (by omega) h1 h2, h n (by omega) (by omega) e, Fi.add_zero]
/-- Two equal columns side by side. -/
theorem det_adj : ∀ {n : Nat} {A : Nat → Nat → K} (q : Nat), q + 1 < n → (∀ i, A i q = A i (q + 1)) → det n A = 0
  | 0, _, q, h, _ => by omega
  | n + 1, A, q, hq, h => by
    rw [det_succ, sm_two (q := q) hq fun c hc h1 h2 => ?_]
    · have e : det n (fun i j => A (i + 1) (sk (q + 1) j)) = det n (fun i j => A (i + 1) (sk q j)) := det_congr fun i j _ _ => by
        by_cases ej : j = q
        · subst ej
          show A (i + 1) (sk (j + 1) j) = A (i + 1) (sk j j)
          rw [show sk (j + 1) j = j by unfold sk; rw [if_pos (by omega)], show sk j j = j + 1 by unfold sk; rw [if_neg (by omega)]]
          exact h _
        · show A (i + 1) (sk (q + 1) j) = A (i + 1) (sk q j)
          rw [show sk (q + 1) j = sk q j by unfold sk; split <;> split <;> omega]
      rw [e, ← h 0, sg_succ, Fi.neg_mul, Fi.add_neg]
    · have hz : det n (fun i j => A (i + 1) (sk c j)) = 0 := by
        by_cases hcq : c < q
        · refine det_adj (n := n) (q - 1) (by omega) fun i => ?_
          show A (i + 1) (sk c (q - 1)) = A (i + 1) (sk c (q - 1 + 1))
          rw [show sk c (q - 1) = q by unfold sk; split <;> omega, show sk c (q - 1 + 1) = q + 1 by unfold sk; split <;> omega]
          exact h _
        · refine det_adj (n := n) q (by omega) fun i => ?_
          show A (i + 1) (sk c q) = A (i + 1) (sk c (q + 1))
          rw [show sk c q = q by unfold sk; split <;> omega, show sk c (q + 1) = q + 1 by unfold sk; split <;> omega]
          exact h _
      show sg c * (A 0 c * _) = 0
      rw [hz, Fi.mul_zero, Fi.mul_zero]
/-- A with other columns q and k. -/
def two (A : Nat → Nat → K) (q k : Nat) (u w : Nat → K) : Nat → Nat → K := fun i j => if j = q then u i else if j = k then w i else A i j
/-- What two equal columns make zero is negated by an exchange. -/
theorem det_anti {n q k : Nat} (hq : q < n) (hk : k < n) (hne : q ≠ k) (A : Nat → Nat → K) (h0 : ∀ u, det n (two A q k u u) = 0) (u w : Nat → K) : det n (two A q k w u) = -(det n (two A q k u w)) := by
  have l1 : ∀ u v w : Nat → K, det n (two A q k (fun i => u i + 1 * v i) w) = det n (two A q k u w) + 1 * det n (two A q k v w) := fun u v w => det_lin q 1 hq (fun i j hj => by unfold two; rw [if_neg hj, if_neg hj]) (fun i j hj => by unfold two; rw [if_neg hj, if_neg hj]) (fun i => by unfold two; rw [if_pos rfl, if_pos rfl, if_pos rfl])
  have l2 : ∀ u v w : Nat → K, det n (two A q k u (fun i => v i + 1 * w i)) = det n (two A q k u v) + 1 * det n (two A q k u w) := fun u v w => det_lin k 1 hk
    (fun i j hj => by unfold two; by_cases e : j = q; (rw [if_pos e, if_pos e]); (rw [if_neg e, if_neg e, if_neg hj, if_neg hj]))
    (fun i j hj => by unfold two; by_cases e : j = q; (rw [if_pos e, if_pos e]); (rw [if_neg e, if_neg e, if_neg hj, if_neg hj]))
    (fun i => by unfold two; rw [if_neg (Ne.symm hne), if_neg (Ne.symm hne), if_neg (Ne.symm hne), if_pos rfl, if_pos rfl, if_pos rfl])
  have e := h0 (fun i => u i + 1 * w i)
  rw [l1, l2, l2, h0 u, h0 w, Fi.zero_add, Fi.one_mul, Fi.one_mul, Fi.one_mul, Fi.add_zero] at e
  exact Fi.neg_unique e
theorem two_self (A : Nat → Nat → K) (q k : Nat) : two A q k (fun i => A i q) (fun i => A i k) = A := by
  funext i j
  unfold two
  split
  · rename_i e; rw [e]
  · split
    · rename_i e; rw [e]
    · rfl
theorem det_equal {n : Nat} : ∀ (d : Nat) {A : Nat → Nat → K} {q k : Nat}, q + 1 + d = k → k < n → (∀ i, A i q = A i k) → det n A = 0
  | 0, A, q, k, hd, hk, h => by
    subst hd
    exact det_adj q hk h
  | d + 1, A, q, k, hd, hk, h => by
    have hanti := det_anti (n := n) (q := k - 1) (k := k) (by omega) hk (by omega) A (fun u => by
      refine det_adj (k - 1) (by omega) fun i => ?_
      unfold two
      rw [if_pos rfl, if_neg (by omega), if_pos (by omega)]) (fun i => A i (k - 1)) (fun i => A i k)
    rw [two_self] at hanti
    have hz : det n (two A (k - 1) k (fun i => A i k) (fun i => A i (k - 1))) = 0 := by
      refine det_equal d (q := q) (k := k - 1) (by omega) (by omega) fun i => ?_
      unfold two
      rw [if_neg (by omega), if_neg (by omega), if_pos rfl]
      exact h i
    rw [hz] at hanti
    have := congrArg (fun x => -x) hanti
    simp only [Fi.neg_neg, Fi.neg_zero] at this
    exact this.symm
theorem det_same {n : Nat} {A : Nat → Nat → K} {q k : Nat} (hq : q < n) (hk : k < n) (hne : q ≠ k) (h : ∀ i, A i q = A i k) : det n A = 0 := by
  rcases Nat.lt_or_gt_of_ne hne with hl | hl
  · exact det_equal (k - q - 1) (by omega) hk h
  · exact det_equal (q - k - 1) (by omega) hq fun i => (h i).symm
theorem det_swap {n : Nat} (A : Nat → Nat → K) {q k : Nat} (hq : q < n) (hk : k < n) (hne : q ≠ k) : det n (two A q k (fun i => A i k) (fun i => A i q)) = -(det n A) := by
  have := det_anti hq hk hne A (fun u => det_same hq hk hne fun i => by unfold two; rw [if_pos rfl, if_neg (Ne.symm hne), if_pos rfl]) (fun i => A i q) (fun i => A i k)
  rwa [two_self] at this
/-- Rows told of by what row operations do. -/
structure RowF (n : Nat) (G : (Nat → Nat → K) → K) : Prop where
  congr : ∀ {A B : Nat → Nat → K}, (∀ i j, i < n → j < n → A i j = B i j) → G A = G B
  swap : ∀ (A : Nat → Nat → K) {p k : Nat}, p < n → k < n → p ≠ k → G (fun i => if i = p then A k else if i = k then A p else A i) = -(G A)
  scale : ∀ (A : Nat → Nat → K) {p : Nat} (a : K), p < n → G (fun i j => if i = p then a * A i j else A i j) = a * G A
  add : ∀ (A : Nat → Nat → K) {i p : Nat} (a : K), i < n → p < n → i ≠ p → G (fun i' j => if i' = i then A i' j + a * A p j else A i' j) = G A
theorem RowF.zero {n : Nat} {G : (Nat → Nat → K) → K} (g : RowF n G) {A : Nat → Nat → K} {p : Nat} (hp : p < n) (h : ∀ j, j < n → A p j = 0) : G A = 0 := by
  have := g.scale A (p := p) 0 hp
  rw [Fi.zero_mul] at this
  rw [← this]
  refine g.congr fun i j hi hj => ?_
  split
  · rename_i e; rw [e, h j hj, Fi.zero_mul]
  · rfl
/-- A function of rows that makes one column out of each of them, linearly. -/
theorem rowF_of {n : Nat} (L : (Nat → K) → Nat → K) (hc : ∀ u v i, (∀ j, j < n → u j = v j) → i < n → L u i = L v i) (ha : ∀ u v (a : K) i, L (fun j => u j + a * v j) i = L u i + a * L v i) (hs : ∀ u (a : K) i, L (fun j => a * u j) i = a * L u i) : RowF n (fun R => det n fun i j => L (R j) i) where
  congr h := det_congr fun i j hi hj => hc _ _ i (fun l hl => h j l hj hl) hi
  swap A {p k} hp hk hne := by
    have := det_swap (fun i j => L (A j) i) hp hk hne
    rw [← this]
    refine congrArg (det n) ?_
    funext i j
    unfold two
    by_cases e1 : j = p
    · simp only [e1, if_true]
    · by_cases e2 : j = k
      · subst e2; simp only [if_neg e1, if_true]
      · simp only [if_neg e1, if_neg e2]
  scale A {p} a hp := by
    have hz : det n (two (fun i j => L (A j) i) p p (fun _ => 0) (fun _ => 0)) = 0 := by
      have e := det_lin (n := n) (A := two (fun i j => L (A j) i) p p (fun _ => 0) (fun _ => 0)) (B := two (fun i j => L (A j) i) p p (fun _ => 0) (fun _ => 0)) (C := two (fun i j => L (A j) i) p p (fun _ => 0) (fun _ => 0)) p 1 hp (fun _ _ _ => rfl) (fun _ _ _ => rfl) (fun i => by
        unfold two; rw [if_pos rfl, Fi.mul_zero, Fi.add_zero])
      rw [Fi.one_mul] at e
      have e2 : det n (two (fun i j => L (A j) i) p p (fun _ => 0) (fun _ => 0)) + det n (two (fun i j => L (A j) i) p p (fun _ => 0) (fun _ => 0)) = det n (two (fun i j => L (A j) i) p p (fun _ => 0) (fun _ => 0)) + 0 := by rw [← e, Fi.add_zero]
      exact Fi.add_left_cancel e2
    have := det_lin (n := n) (A := two (fun i j => L (A j) i) p p (fun _ => 0) (fun _ => 0)) (B := fun i j => L (A j) i) (C := fun i j => L (if j = p then fun l => a * A j l else A j) i) p a hp
      (fun i j hj => by simp only [if_neg hj, two]) (fun i j hj => by simp only [two, if_neg hj]) (fun i => by simp only [if_true, two]; rw [hs, Fi.zero_add])
    rw [hz, Fi.zero_add] at this
    rw [← this]
    refine congrArg (det n) ?_
    funext i j
    by_cases e : j = p
    · simp only [e, if_true]
    · simp only [if_neg e]
  add A {i p} a hi hp hne := by
    have := det_lin (n := n) (A := fun i j => L (A j) i) (B := two (fun i j => L (A j) i) i i (fun l => L (A p) l) (fun l => L (A p) l)) (C := fun l j => L (if j = i then fun x => A j x + a * A p x else A j) l) i a hi
      (fun l j hj => by simp only [if_neg hj]) (fun l j hj => by simp only [two, if_neg hj]) (fun l => by simp only [if_true, two]; rw [ha])
    have hz : det n (two (fun i j => L (A j) i) i i (fun l => L (A p) l) (fun l => L (A p) l)) = 0 := det_same hi hp hne (fun l => by simp only [two, if_true, if_neg (Ne.symm hne)])
    rw [hz, Fi.mul_zero, Fi.add_zero] at this
    rw [← this]
    refine congrArg (det n) ?_
    funext l j
    by_cases e : j = i
    · simp only [e, if_true]
    · simp only [if_neg e]
theorem det_idm : ∀ n : Nat, det n (idm : Nat → Nat → K) = 1
  | 0 => rfl
  | n + 1 => by
    rw [det_succ, sm_one (k := 0) (by omega) fun c _ hc => by
      simp only [idm, if_neg (Ne.symm hc)]; rw [Fi.zero_mul, Fi.mul_zero]]
    have : det n (fun i j => (idm (i + 1) (sk 0 j) : K)) = 1 := by
      rw [← det_idm n]
      refine det_congr fun i j _ _ => ?_
      simp only [idm, sk, Nat.not_lt_zero, if_false, Nat.add_right_cancel_iff]
    rw [this]
    simp only [idm, if_true, sg]
    rw [if_neg (by omega), Fi.one_mul, Fi.one_mul]
/-- Whatever row operations do to G: rows decide, up to the value at the identity. -/
def Rows (n : Nat) (R : Nat → Nat → K) (d : K) : Prop := ∀ G : (Nat → Nat → K) → K, RowF n G → G R = d * G idm
def mmul (A B : Nat → Nat → K) (n : Nat) : Nat → Nat → K := fun i j => sm (fun l => A i l * B l j) n
theorem rowT (n : Nat) : RowF n (fun R : Nat → Nat → K => det n fun i j => R j i) :=
  rowF_of (fun u i => u i) (fun u v i h hi => h i hi) (fun _ _ _ _ => rfl) (fun _ _ _ => rfl)
theorem rowAT (n : Nat) (A : Nat → Nat → K) : RowF n (fun R : Nat → Nat → K => det n (mmul A (fun i j => R j i) n)) :=
  rowF_of (fun u i => sm (fun l => A i l * u l) n) (fun u v i h hi => sm_congr fun l hl => by rw [h l hl])
    (fun u v a i => by rw [← sm_mul, ← sm_add]; exact sm_congr fun l _ => by rw [Fi.mul_add]; congr 1; ac_rfl)
    (fun u a i => by rw [← sm_mul]; exact sm_congr fun l _ => by show A i l * (a * u l) = a * (A i l * u l); ac_rfl)
section
variable {n : Nat} (hR : ∀ R : Nat → Nat → K, ∃ d, Rows n R d)
include hR
theorem rows_det (R : Nat → Nat → K) : Rows n R (det n fun i j => R j i) := by
  obtain ⟨d, hd⟩ := hR R
  have h1 := hd _ (rowT n)
  have e : det n (fun i j => (idm j i : K)) = 1 := by
    rw [← det_idm n]
    exact det_congr fun i j _ _ => by unfold idm; by_cases h : i = j <;> simp [h, eq_comm]
  rw [e, Fi.mul_one] at h1
  rw [h1]; exact hd
/-- Determinants of products. -/
theorem det_mul (A B : Nat → Nat → K) : det n (mmul A B n) = det n A * det n B := by
  have h1 := rows_det hR (fun i j => B j i) _ (rowAT n A)
  have e : det n (mmul A (fun i j => (idm j i : K)) n) = det n A := det_congr fun i j _ hj => by
    unfold mmul
    rw [sm_one (k := j) hj fun l _ hne => by simp only [idm, if_neg (Ne.symm hne)]; exact Fi.mul_zero _]
    simp only [idm, if_true]
    exact Fi.mul_one _
  rw [e, Fi.mul_comm] at h1
  exact h1
/-- Row operations, as products. -/
theorem rowDet : RowF n (det n : (Nat → Nat → K) → K) where
  congr h := det_congr h
  swap A {p k} hp hk hne := by
    have e1 : det n (fun i j => if i = p then A k j else if i = k then A p j else A i j) = det n (mmul (two idm p k (fun i => idm i k) (fun i => idm i p)) A n) := det_congr fun i j hi hj => by
      unfold mmul
      have hone : ∀ q, q < n → (∀ l, l < n → l ≠ q → two idm p k (fun i => idm i k) (fun i => (idm i p : K)) i l = 0) → two idm p k (fun i => idm i k) (fun i => (idm i p : K)) i q = 1 → sm (fun l => two idm p k (fun i => idm i k) (fun i => (idm i p : K)) i l * A l j) n = A q j := fun q hq hz h1 => by
        rw [sm_one (k := q) hq fun l hl hne => by rw [hz l hl hne, Fi.zero_mul], h1, Fi.one_mul]
      have tz : ∀ l, two idm p k (fun i => idm i k) (fun i => (idm i p : K)) i l = if l = p then (if i = k then 1 else 0) else if l = k then (if i = p then 1 else 0) else if i = l then 1 else 0 := fun l => rfl
      by_cases e1 : i = p
      · rw [if_pos e1]
        exact (hone k hk (fun l _ hl => by rw [tz]; split <;> (try split) <;> (try split) <;> first | rfl | (exfalso; omega)) (by rw [tz]; split <;> (try split) <;> (try split) <;> first | rfl | (exfalso; omega))).symm
      · rw [if_neg e1]
        by_cases e2 : i = k
        · rw [if_pos e2]
          exact (hone p hp (fun l _ hl => by rw [tz]; split <;> (try split) <;> (try split) <;> first | rfl | (exfalso; omega)) (by rw [tz]; split <;> (try split) <;> (try split) <;> first | rfl | (exfalso; omega))).symm
        · rw [if_neg e2]
          exact (hone i hi (fun l _ hl => by rw [tz]; split <;> (try split) <;> (try split) <;> first | rfl | (exfalso; omega)) (by rw [tz]; split <;> (try split) <;> (try split) <;> first | rfl | (exfalso; omega))).symm
    have e2 : (fun i => if i = p then A k else if i = k then A p else A i) = (fun i j => if i = p then A k j else if i = k then A p j else A i j) := by
      funext i j
      split
      · rfl
      · split <;> rfl
    rw [e2, e1, det_mul hR, det_swap idm hp hk hne, det_idm, Fi.neg_mul, Fi.one_mul]
  scale A {p} a hp := by
    have e1 : det n (fun i j => if i = p then a * A i j else A i j) = det n (mmul (fun i j => if j = p then a * idm j i else idm j i) A n) := det_congr fun i j hi hj => by
      unfold mmul
      rw [sm_one (k := i) hi fun l _ hne => by
        simp only [idm, if_neg hne]; split <;> simp only [Fi.mul_zero, Fi.zero_mul]]
      simp only [idm, if_true]
      split
      · rw [Fi.mul_one]
      · rw [Fi.one_mul]
    have hs := (rowT (K := K) n).scale idm a hp
    have e3 : det n (fun i j => (idm j i : K)) = 1 := by
      rw [← det_idm n]
      exact det_congr fun i j _ _ => by unfold idm; by_cases h : i = j <;> simp [h, eq_comm]
    rw [e1, det_mul hR]
    simp only at hs
    rw [hs, e3, Fi.mul_one]
  add A {i p} a hi hp hne := by
    have e1 : det n (fun i' j => if i' = i then A i' j + a * A p j else A i' j) = det n (mmul (fun i' j => if j = p then idm j i' + a * idm i i' else idm j i') A n) := det_congr fun i' j hi' hj => by
      unfold mmul
      have hsum : sm (fun l => (if l = p then idm l i' + a * idm i i' else (idm l i' : K)) * A l j) n = sm (fun l => idm l i' * A l j + (if l = p then a * idm i i' * A l j else 0)) n := sm_congr fun l _ => by
        split
        · rw [Fi.add_mul]
        · rw [Fi.add_zero]
      rw [hsum, sm_add, sm_one (k := i') hi' fun l _ hne => by simp only [idm, if_neg hne]; exact Fi.zero_mul _, sm_one (k := p) hp fun l _ hne => by rw [if_neg hne]]
      simp only [idm, if_true]
      rw [Fi.one_mul]
      by_cases e : i' = i
      · rw [if_pos e, if_pos e.symm, Fi.mul_one]
      · rw [if_neg e, if_neg (Ne.symm e), Fi.mul_zero, Fi.zero_mul, Fi.add_zero]
    have hs := (rowT (K := K) n).add idm (i := p) (p := i) a hp hi (Ne.symm hne)
    have e3 : det n (fun i j => (idm j i : K)) = 1 := by
      rw [← det_idm n]
      exact det_congr fun i j _ _ => by unfold idm; by_cases h : i = j <;> simp [h, eq_comm]
    rw [e1, det_mul hR]
    simp only at hs
    rw [hs, e3, Fi.one_mul]
end
theorem RowF.col {n : Nat} {G : (Nat → Nat → K) → K} (g : RowF n G) (A : Nat → Nat → K) {r k c : Nat} (hr : r < n) (hk : k < n) (hrk : r ≤ k) (hne : A k c ≠ 0) : (if k ≠ r then -(A k c) else A k c) * G (colA A A r k c) = G A := by
  let B : Nat → Nat → K := fun i => if i = r then A k else if i = k then A r else A i
  let C : Nat → Nat → K := fun i j => if i = r then Fi.inv (A k c) * B i j else B i j
  have hB : G B = if k ≠ r then -(G A) else G A := by
    by_cases e : k = r
    · rw [if_neg (fun h => h e)]
      refine g.congr fun i j _ _ => ?_
      show (if i = r then A k else if i = k then A r else A i) j = _
      by_cases e1 : i = r
      · rw [if_pos e1, e1, e]
      · rw [if_neg e1, if_neg (by omega)]
    · rw [if_pos e]
      exact g.swap A hr hk (Ne.symm e)
  have hC : G C = Fi.inv (A k c) * G B := g.scale B _ hr
  have hcl : ∀ t : Nat, t ≤ n → G (fun i j => if i < t ∧ i ≠ r then C i j + -(C i c) * C r j else C i j) = G C := by
    intro t
    induction t with
    | zero =>
      intro _
      exact g.congr fun i j _ _ => by rw [if_neg (by omega)]
    | succ t ih =>
      intro ht
      rw [← ih (by omega)]
      by_cases e : t = r
      · exact g.congr fun i j _ _ => by
          by_cases h : i < t ∧ i ≠ r
          · rw [if_pos h, if_pos ⟨by omega, h.2⟩]
          · rw [if_neg h, if_neg (by omega)]
      · have := g.add (fun i j => if i < t ∧ i ≠ r then C i j + -(C i c) * C r j else C i j) (i := t) (p := r) (-(C t c)) (by omega) hr e
        rw [← this]
        refine g.congr fun i j _ _ => ?_
        by_cases h : i = t
        · subst h
          rw [if_pos ⟨by omega, e⟩, if_pos rfl, if_neg (by omega), if_neg (by omega)]
        · rw [if_neg h]
          by_cases h2 : i < t ∧ i ≠ r
          · rw [if_pos h2, if_pos ⟨by omega, h2.2⟩]
          · rw [if_neg h2, if_neg (by omega)]
  have hfin : G (colA A A r k c) = G C := by
    rw [← hcl n (Nat.le_refl _)]
    refine g.congr fun i j hi _ => ?_
    unfold colA
    by_cases e : i = r
    · rw [if_pos e, if_neg (by omega)]
      show _ = if i = r then Fi.inv (A k c) * B i j else B i j
      rw [if_pos e]
      show _ = _ * (if i = r then A k else if i = k then A r else A i) j
      rw [if_pos e]
    · rw [if_neg e]
      have c1 : ∀ x, C i x = if i = k then A r x else A i x := fun x => by
        show (if i = r then Fi.inv (A k c) * B i x else B i x) = _
        rw [if_neg e]
        show (if i = r then A k else if i = k then A r else A i) x = _
        rw [if_neg e]
        split <;> rfl
      have c2 : ∀ x, C r x = Fi.inv (A k c) * A k x := fun x => by
        show (if r = r then Fi.inv (A k c) * B r x else B r x) = _
        rw [if_pos rfl]
        show _ * (if r = r then A k else if r = k then A r else A r) x = _
        rw [if_pos rfl]
      rw [if_pos (show i < n ∧ i ≠ r from ⟨hi, e⟩), c1, c1, c2]
  rw [hfin, hC, hB]
  by_cases e : k = r
  · rw [if_neg (fun h => h e), if_neg (fun h => h e), ← Fi.mul_assoc, Fi.mul_inv hne, Fi.one_mul]
  · rw [if_pos e, if_pos e, Fi.mul_neg, Fi.mul_neg, Fi.neg_mul, Fi.neg_neg, ← Fi.mul_assoc, Fi.mul_inv hne, Fi.one_mul]
end La
end Go.Cw

