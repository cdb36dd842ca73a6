/-
  Linear algebra: spans and reduced matrices.
-/
import Derived.Test.YtamhdlkfhhpdpaaPlainF1
set_option linter.unusedVariables false
set_option linter.unusedSimpArgs false
set_option linter.unusedSectionVars false
namespace Go.Cw
namespace La
variable {K : Type} [Fi K]
/-- The sum of the first n. -/
def sm (g : Nat → K) : Nat → K
  | 0 => 0
  | n + 1 => sm g n + g n
theorem sm_congr {g h : Nat → K} : ∀ {n : Nat}, (∀ i, i < n → g i = h i) → sm g n = sm h n
  | 0, _ => rfl
  | n + 1, e => by
    show sm g n + g n = sm h n + h n
    rw [sm_congr fun i hi => e i (by omega), e n (by omega)]
theorem sm_zero {g : Nat → K} : ∀ {n : Nat}, (∀ i, i < n → g i = 0) → sm g n = 0
  | 0, _ => rfl
  | n + 1, e => by
    show sm g n + g n = 0
    rw [sm_zero fun i hi => e i (by omega), e n (by omega), Fi.add_zero]
theorem sm_add (g h : Nat → K) : ∀ n : Nat, sm (fun i => g i + h i) n = sm g n + sm h n
  | 0 => (Fi.add_zero 0).symm
  | n + 1 => by
    show sm (fun i => g i + h i) n + (g n + h n) = (sm g n + g n) + (sm h n + h n)
    rw [sm_add g h n]
    ac_rfl
theorem sm_mul (a : K) (g : Nat → K) : ∀ n : Nat, sm (fun i => a * g i) n = a * sm g n
  | 0 => (Fi.mul_zero a).symm
  | n + 1 => by
    show sm (fun i => a * g i) n + a * g n = a * (sm g n + g n)
    rw [sm_mul a g n, Fi.mul_add]
theorem sm_mulR (a : K) (g : Nat → K) (n : Nat) : sm (fun i => g i * a) n = sm g n * a := by
  rw [Fi.mul_comm, ← sm_mul]
  exact sm_congr fun i _ => Fi.mul_comm _ _
theorem sm_one {g : Nat → K} {k : Nat} : ∀ {n : Nat}, k < n → (∀ i, i < n → i ≠ k → g i = 0) → sm g n = g k
  | n + 1, hk, h => by
    show sm g n + g n = g k
    by_cases e : k = n
    · subst e
      rw [sm_zero fun i hi => h i (by omega) (by omega), Fi.zero_add]
    · rw [sm_one (k := k) (n := n) (by omega) fun i hi hn => h i (by omega) hn, h n (by omega) (Ne.symm e), Fi.add_zero]
theorem sm_swap (g : Nat → Nat → K) (m : Nat) : ∀ n : Nat, sm (fun i => sm (fun j => g i j) m) n = sm (fun j => sm (fun i => g i j) n) m
  | 0 => (sm_zero fun _ _ => rfl).symm
  | n + 1 => by
    show sm (fun i => sm (fun j => g i j) m) n + sm (fun j => g n j) m = sm (fun j => sm (fun i => g i j) n + g n j) m
    rw [sm_swap g m n, sm_add]
theorem sm_ne {g : Nat → K} : ∀ {n : Nat}, sm g n ≠ 0 → ∃ i, i < n ∧ g i ≠ 0
  | 0, h => absurd rfl h
  | n + 1, h => by
    by_cases hn : g n = 0
    · have h2 : sm g n ≠ 0 := fun e => h (by show sm g n + g n = 0; rw [e, hn, Fi.add_zero])
      obtain ⟨i, hi, hg⟩ := sm_ne h2
      exact ⟨i, by omega, hg⟩
    · exact ⟨n, by omega, hn⟩
/-- The combination of the first m rows. -/
def lin (c : Nat → K) (A : Nat → Nat → K) (m : Nat) : Nat → K := fun j => sm (fun i => c i * A i j) m
def Span (A : Nat → Nat → K) (m : Nat) (v : Nat → K) : Prop := ∃ c, v = lin c A m
variable {A B : Nat → Nat → K} {m n : Nat} {u v : Nat → K}
theorem Span.zero : Span A m (fun _ => 0) := ⟨fun _ => 0, by funext j; exact (sm_zero fun i _ => Fi.zero_mul _).symm⟩
theorem Span.mem {i : Nat} (hi : i < m) : Span A m (A i) := ⟨fun k => if k = i then 1 else 0, by
  funext j
  show _ = sm _ m
  rw [sm_one hi fun k _ hk => by simp only [if_neg hk]; exact Fi.zero_mul _]
  simp only [if_true]
  exact (Fi.one_mul _).symm⟩
theorem Span.add (hu : Span A m u) (hv : Span A m v) : Span A m (fun j => u j + v j) := by
  obtain ⟨c, rfl⟩ := hu
  obtain ⟨d, rfl⟩ := hv
  refine ⟨fun i => c i + d i, ?_⟩
  funext j
  show sm _ m + sm _ m = sm _ m
  rw [← sm_add]
  exact sm_congr fun i _ => (Fi.add_mul _ _ _).symm
theorem Span.smul (a : K) (hu : Span A m u) : Span A m (fun j => a * u j) := by
  obtain ⟨c, rfl⟩ := hu
  refine ⟨fun i => a * c i, ?_⟩
  funext j
  show a * sm _ m = sm _ m
  rw [← sm_mul]
  exact sm_congr fun i _ => (Fi.mul_assoc _ _ _).symm
theorem Span.congr (hu : Span A m u) (e : ∀ j, u j = v j) : Span A m v := by
  have : u = v := funext e
  rw [← this]; exact hu
theorem Span.lin {c : Nat → K} : ∀ {k : Nat}, (∀ i, i < k → Span A m (B i)) → Span A m (lin c B k)
  | 0, _ => Span.zero
  | k + 1, h => ((Span.lin (k := k) fun i hi => h i (by omega)).add ((h k (by omega)).smul (c k))).congr fun j => rfl
theorem Span.trans {k : Nat} (hv : Span B k v) (h : ∀ i, i < k → Span A m (B i)) : Span A m v := by
  obtain ⟨c, rfl⟩ := hv
  exact Span.lin h
/-- Reduced over the first n columns: the pivots p of the first r rows. -/
structure Rref (A : Nat → Nat → K) (m n : Nat) (p : Nat → Nat) (r : Nat) : Prop where
  le : r ≤ m
  inc : ∀ i j, i < j → j < r → p i < p j
  lt : ∀ i, i < r → p i < n
  one : ∀ i, i < r → A i (p i) = 1
  clr : ∀ i j, i < r → j < m → j ≠ i → A j (p i) = 0
  lead : ∀ i x, i < r → x < p i → A i x = 0
  rest : ∀ j x, r ≤ j → j < m → x < n → A j x = 0
variable {p p' : Nat → Nat} {r r' m' : Nat}
theorem sm_cut {g : Nat → K} {r : Nat} : ∀ {m : Nat}, r ≤ m → (∀ i, r ≤ i → i < m → g i = 0) → sm g m = sm g r
  | 0, h, _ => by rw [show r = 0 by omega]
  | m + 1, h, hz => by
    by_cases e : r = m + 1
    · rw [e]
    · show sm g m + g m = _
      rw [sm_cut (m := m) (by omega) fun i h1 h2 => hz i h1 (by omega), hz m (by omega) (by omega), Fi.add_zero]
theorem Rref.coef (h : Rref A m n p r) {c : Nat → K} {i : Nat} (hi : i < r) : lin c A m (p i) = c i := by
  show sm _ m = _
  rw [sm_one (k := i) (by have := h.le; omega) fun j hj hne => by rw [h.clr i j hi hj hne, Fi.mul_zero], h.one i hi, Fi.mul_one]
/-- A vector of the span, out of its entries at the pivots. -/
theorem Rref.span (h : Rref A m n p r) (hv : Span A m v) {x : Nat} (hx : x < n) : v x = lin (fun i => v (p i)) A r x := by
  obtain ⟨c, rfl⟩ := hv
  show sm _ m = sm _ r
  rw [sm_cut h.le fun i h1 h2 => by rw [h.rest i x h1 h2 hx, Fi.mul_zero]]
  exact sm_congr fun i hi => by show c i * _ = lin c A m (p i) * _; rw [h.coef hi]
theorem Rref.lead_piv (h : Rref A m n p r) (hv : Span A m v) {x : Nat} (hx : x < n) (h0 : v x ≠ 0) (hl : ∀ y, y < x → v y = 0) : ∃ i, i < r ∧ p i = x := by
  rw [h.span hv hx] at h0
  obtain ⟨i, hi, hg⟩ := sm_ne h0
  refine ⟨i, hi, ?_⟩
  have h1 : ¬ p i < x := fun hlt => hg (by show v (p i) * _ = 0; rw [hl _ hlt, Fi.zero_mul])
  have h2 : ¬ x < p i := fun hlt => hg (by show v (p i) * _ = 0; rw [h.lead i x hi hlt, Fi.mul_zero])
  omega
/-- Inclusion of the spans, as far as the first n columns show. -/
def Sub (A : Nat → Nat → K) (m : Nat) (B : Nat → Nat → K) (m' n : Nat) : Prop := ∀ i, i < m → ∃ v, Span B m' v ∧ ∀ x, x < n → A i x = v x
theorem Sub.of (h : ∀ i, i < m → Span B m' (A i)) : Sub A m B m' n := fun i hi => ⟨_, h i hi, fun _ _ => rfl⟩
theorem Rref.sub (h : Rref A m n p r) (h' : Rref B m' n p' r') (hs : Sub A m B m' n) : ∀ i, i < r → ∃ i', i' < r' ∧ p' i' = p i := by
  intro i hi
  obtain ⟨v, hv, e⟩ := hs i (by have := h.le; omega)
  refine h'.lead_piv hv (h.lt i hi) ?_ fun y hy => ?_
  · rw [← e _ (h.lt i hi), h.one i hi]; exact Fi.one_ne
  · rw [← e y (by have := h.lt i hi; omega), h.lead i y hi hy]
theorem Rref.inj (h : Rref A m n p r) {i j : Nat} (hi : i < r) (hj : j < r) (e : p i = p j) : i = j := by
  rcases Nat.lt_trichotomy i j with hl | hl | hl
  · have := h.inc i j hl hj; omega
  · exact hl
  · have := h.inc j i hl hi; omega
theorem Rref.index (h : Rref A m n p r) (h' : Rref B m' n p' r') (hs : Sub A m B m' n) : ∀ i, i < r → ∃ i', i ≤ i' ∧ i' < r' ∧ p' i' = p i := by
  intro i
  induction i with
  | zero =>
    intro hi
    obtain ⟨i', h1, h2⟩ := h.sub h' hs 0 hi
    exact ⟨i', by omega, h1, h2⟩
  | succ i ih =>
    intro hi
    obtain ⟨j', a1, a2, a3⟩ := ih (by omega)
    obtain ⟨i', h1, h2⟩ := h.sub h' hs (i + 1) hi
    refine ⟨i', ?_, h1, h2⟩
    have hinc := h.inc i (i + 1) (by omega) hi
    rcases Nat.lt_trichotomy i' j' with hl | hl | hl
    · have := h'.inc i' j' hl a2; omega
    · rw [hl] at h2; omega
    · omega
def colA (A C : Nat → Nat → K) (p k c : Nat) : Nat → Nat → K := fun i j =>
  if i = p then Fi.inv (A k c) * C k j else (if i = k then C p j else C i j) + -(if i = k then A p c else A i c) * (Fi.inv (A k c) * C k j)
theorem colA_p (A C : Nat → Nat → K) (p k c j : Nat) : colA A C p k c p j = Fi.inv (A k c) * C k j := by unfold colA; rw [if_pos rfl]
theorem Rref.zero (A : Nat → Nat → K) (m : Nat) (p : Nat → Nat) : Rref A m 0 p 0 := ⟨Nat.zero_le _, fun _ _ _ h => by omega, fun _ h => by omega, fun _ h => by omega, fun _ _ h => by omega, fun _ _ h => by omega, fun _ _ _ _ h => by omega⟩
theorem Rref.skip (h : Rref A m n p r) (hz : ∀ j, r ≤ j → j < m → A j n = 0) : Rref A m (n + 1) p r :=
  ⟨h.le, h.inc, fun i hi => by have := h.lt i hi; omega, h.one, h.clr, h.lead, fun j x h1 h2 h3 => by
    by_cases e : x = n
    · rw [e]; exact hz j h1 h2
    · exact h.rest j x h1 h2 (by omega)⟩
theorem Rref.step (h : Rref A m n p r) {k : Nat} (hr : r ≤ k) (hk : k < m) (hne : A k n ≠ 0) (hp : p' r = n) (hp2 : ∀ i, i < r → p' i = p i) (hB : ∀ i j, i < m → B i j = colA A A r k n i j) : Rref B m (n + 1) p' (r + 1) := by
  have hP : ∀ x, x < n → Fi.inv (A k n) * A k x = 0 := fun x hx => by rw [h.rest k x hr hk hx, Fi.mul_zero]
  have hPn : Fi.inv (A k n) * A k n = 1 := Fi.inv_mul _ hne
  have hBp : ∀ j, B r j = Fi.inv (A k n) * A k j := fun j => by rw [hB r j (by omega), colA_p]
  have hBi : ∀ i j, i < m → i ≠ r → B i j = (if i = k then A r j else A i j) + -(if i = k then A r n else A i n) * (Fi.inv (A k n) * A k j) := fun i j hi hne => by rw [hB i j hi]; unfold colA; rw [if_neg hne]
  have hBx : ∀ i x, i < m → i ≠ r → x < n → B i x = if i = k then A r x else A i x := fun i x hi hne hx => by rw [hBi i x hi hne, hP x hx, Fi.mul_zero, Fi.add_zero]
  have hplt : ∀ i, i < r + 1 → p' i < n + 1 := fun i hi => by
    by_cases e : i = r
    · rw [e, hp]; omega
    · rw [hp2 i (by omega)]; have := h.lt i (by omega); omega
  refine ⟨by omega, fun i j hij hj => ?_, hplt, fun i hi => ?_, fun i j hi hj hne => ?_, fun i x hi hx => ?_, fun j x h1 h2 h3 => ?_⟩
  · by_cases e : j = r
    · subst e; rw [hp, hp2 i hij]; exact h.lt i hij
    · rw [hp2 i (by omega), hp2 j (by omega)]; exact h.inc i j hij (by omega)
  · by_cases e : i = r
    · subst e; rw [hp, hBp, hPn]
    · have hi2 : i < r := by omega
      have hl := h.lt i hi2
      rw [hp2 i hi2, hBx i _ (by omega) e hl, if_neg (by omega)]
      exact h.one i hi2
  · by_cases e : i = r
    · subst e
      rw [hp, hBi j n hj hne, hPn, Fi.mul_one, Fi.add_neg]
    · have hi2 : i < r := by omega
      have hl := h.lt i hi2
      rw [hp2 i hi2]
      by_cases ej : j = r
      · subst ej; rw [hBp]; exact hP _ hl
      · rw [hBx j _ hj ej hl]
        split
        · exact h.clr i r hi2 (by omega) (by omega)
        · exact h.clr i j hi2 hj hne
  · by_cases e : i = r
    · subst e; rw [hp] at hx; rw [hBp]; exact hP x hx
    · have hi2 : i < r := by omega
      have hl := h.lt i hi2
      rw [hp2 i hi2] at hx
      rw [hBx i x (by omega) e (by omega), if_neg (by omega)]
      exact h.lead i x hi2 hx
  · by_cases e : x = n
    · subst e
      rw [hBi j x h2 (by omega), hPn, Fi.mul_one, Fi.add_neg]
    · rw [hBx j x h2 (by omega) (by omega)]
      split
      · exact h.rest r x (Nat.le_refl _) (by omega) (by omega)
      · exact h.rest j x (by omega) h2 (by omega)
/-- The identity matrix. -/
def idm (i j : Nat) : K := if i = j then 1 else 0
end La
end Go.Cw

