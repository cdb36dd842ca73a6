/-
  Finite fields: residues modulo a polynomial, generators, arithmetic on codes.
-/
import Derived.Test.YtamhdlkfhhpdpaaPlainL
set_option linter.unusedVariables false
set_option linter.unusedSimpArgs false
set_option linter.unusedSectionVars false
namespace Go.Cw
set_option linter.unusedVariables false
/-- The ring of the residues of the polynomials over the numbers below p, modulo the monic polynomial with the low coefficients md (of degree m): its elements are functions that are 0 from m on. -/
structure Rg (p : Nat) where
  m : Nat
  hp : 2 ≤ p
  hm : 1 ≤ m
  md : Nat → Fin p
abbrev Rg.V {p : Nat} (_ : Rg p) := Nat → Fin p
namespace Rg
variable {p : Nat} [NeZero p] (R : Rg p)
def vadd (a b : R.V) : R.V := fun i => a i + b i
def smul (s : Fin p) (a : R.V) : R.V := fun i => s * a i
def vzero : R.V := fun _ => 0
def vneg (a : R.V) : R.V := fun i => - a i
/-- Times X. -/
def T (a : R.V) : R.V := fun j => if j < R.m then (if j = 0 then 0 else a (j - 1)) - a (R.m - 1) * R.md j else 0
def pw : Nat → R.V → R.V
  | 0, a => a
  | n + 1, a => R.T (pw n a)
def act : Nat → R.V → R.V → R.V
  | 0, _, _ => R.vzero
  | n + 1, b, a => R.vadd (act n b a) (R.smul (b n) (R.pw n a))
def e0 : R.V := fun j => if j = 0 then 1 else 0
def mul (b a : R.V) : R.V := R.act R.m b a
/-- An element: 0 from m on. -/
def El (a : R.V) : Prop := ∀ j, R.m ≤ j → a j = 0
theorem T_add (a b : R.V) : R.T (R.vadd a b) = R.vadd (R.T a) (R.T b) := by
  funext j; unfold T vadd; dsimp only; split
  · split <;> grind
  · grind
theorem T_smul (s : Fin p) (a : R.V) : R.T (R.smul s a) = R.smul s (R.T a) := by
  funext j; unfold T smul; dsimp only; split
  · split <;> grind
  · grind
theorem T_zero : R.T R.vzero = R.vzero := by
  funext j; unfold T vzero; split
  · split <;> grind
  · grind
theorem pw_add (n : Nat) (a b : R.V) : R.pw n (R.vadd a b) = R.vadd (R.pw n a) (R.pw n b) := by
  induction n with
  | zero => rfl
  | succ n ih => simp only [pw, ih, T_add]
theorem pw_smul (n : Nat) (s : Fin p) (a : R.V) : R.pw n (R.smul s a) = R.smul s (R.pw n a) := by
  induction n with
  | zero => rfl
  | succ n ih => simp only [pw, ih, T_smul]
theorem pw_zero (n : Nat) : R.pw n R.vzero = R.vzero := by
  induction n with
  | zero => rfl
  | succ n ih => simp only [pw, ih, T_zero]
theorem pw_T (n : Nat) (a : R.V) : R.pw n (R.T a) = R.T (R.pw n a) := by
  induction n with
  | zero => rfl
  | succ n ih => simp only [pw, ih]
theorem pw_pw (n k : Nat) (a : R.V) : R.pw n (R.pw k a) = R.pw (n + k) a := by
  induction n with
  | zero => simp [pw]
  | succ n ih => rw [Nat.succ_add]; simp only [pw, ih]
theorem vadd_ac (a b c d : R.V) : R.vadd (R.vadd a b) (R.vadd c d) = R.vadd (R.vadd a c) (R.vadd b d) := by
  funext j; unfold vadd; grind
theorem smul_add (s : Fin p) (a b : R.V) : R.smul s (R.vadd a b) = R.vadd (R.smul s a) (R.smul s b) := by
  funext j; unfold vadd smul; grind
theorem smul_zero (s : Fin p) : R.smul s R.vzero = R.vzero := by
  funext j; unfold vzero smul; grind
theorem smul_smul (s t : Fin p) (a : R.V) : R.smul s (R.smul t a) = R.smul t (R.smul s a) := by
  funext j; unfold smul; grind
theorem act_add (n : Nat) (b a c : R.V) : R.act n b (R.vadd a c) = R.vadd (R.act n b a) (R.act n b c) := by
  induction n with
  | zero => funext j; simp only [act, vadd, vzero]; grind
  | succ n ih => simp only [act, ih, pw_add, smul_add]; rw [vadd_ac]
theorem act_smul (n : Nat) (b : R.V) (s : Fin p) (a : R.V) : R.act n b (R.smul s a) = R.smul s (R.act n b a) := by
  induction n with
  | zero => simp only [act, smul_zero]
  | succ n ih => simp only [act, ih, pw_smul, smul_add]; rw [smul_smul R (b n) s]
theorem act_zero (n : Nat) (b : R.V) : R.act n b R.vzero = R.vzero := by
  induction n with
  | zero => rfl
  | succ n ih => simp only [act, ih, pw_zero, smul_zero]; funext j; simp only [vadd, vzero]; grind
theorem T_act (n : Nat) (b a : R.V) : R.T (R.act n b a) = R.act n b (R.T a) := by
  induction n with
  | zero => exact T_zero R
  | succ n ih => simp only [act, T_add, T_smul, ih, pw_T]
theorem pw_act (k n : Nat) (b a : R.V) : R.pw k (R.act n b a) = R.act n b (R.pw k a) := by
  induction k with
  | zero => rfl
  | succ k ih => simp only [pw, ih, T_act]
theorem act_act (n k : Nat) (b c a : R.V) : R.act n b (R.act k c a) = R.act k c (R.act n b a) := by
  induction n with
  | zero => simp only [act, act_zero]
  | succ n ih => simp only [act, ih, act_add, act_smul, pw_act]
/-- The power of X below m. -/
theorem pw_e0 (n : Nat) (h : n < R.m) : R.pw n R.e0 = fun j => if j = n then 1 else 0 := by
  induction n with
  | zero => rfl
  | succ n ih =>
    simp only [pw]; rw [ih (by omega)]
    funext j; unfold T; dsimp only
    rw [if_neg (show ¬ R.m - 1 = n by omega)]
    by_cases h1 : j < R.m
    · rw [if_pos h1]
      by_cases h2 : j = 0
      · subst h2; rw [if_pos rfl, if_neg (by omega)]; grind
      · rw [if_neg h2]
        by_cases h3 : j = n + 1
        · rw [if_pos h3, if_pos (by omega)]; grind
        · rw [if_neg h3, if_neg (by omega)]; grind
    · rw [if_neg h1, if_neg (by omega)]
theorem act_e0 (n : Nat) (b : R.V) (h : n ≤ R.m) : R.act n b R.e0 = fun j => if j < n then b j else 0 := by
  induction n with
  | zero => funext j; simp [act, vzero]
  | succ n ih =>
    simp only [act]; rw [ih (by omega), pw_e0 R n (by omega)]
    funext j; unfold vadd smul; dsimp only
    by_cases h1 : j < n
    · rw [if_pos h1, if_neg (by omega), if_pos (by omega)]; grind
    · rw [if_neg h1]
      by_cases h2 : j = n
      · subst h2; rw [if_pos rfl, if_pos (by omega)]; grind
      · rw [if_neg h2, if_neg (by omega)]; grind
theorem mul_e0 {b : R.V} (hb : R.El b) : R.mul b R.e0 = b := by
  unfold mul; rw [act_e0 R R.m b (Nat.le_refl _)]
  funext j
  by_cases h : j < R.m
  · rw [if_pos h]
  · rw [if_neg h, hb j (by omega)]
theorem mul_comm {a b : R.V} (ha : R.El a) (hb : R.El b) : R.mul a b = R.mul b a := by
  have h1 := mul_e0 R hb
  have h2 := mul_e0 R ha
  unfold mul at *
  calc R.act R.m a b = R.act R.m a (R.act R.m b R.e0) := by rw [h1]
    _ = R.act R.m b (R.act R.m a R.e0) := act_act ..
    _ = R.act R.m b a := by rw [h2]
theorem T_el (a : R.V) : R.El (R.T a) := by
  intro j h; unfold T; rw [if_neg (by omega)]
theorem pw_el (n : Nat) {a : R.V} (h : R.El a) : R.El (R.pw n a) := by
  cases n with
  | zero => exact h
  | succ n => exact T_el R _
theorem act_el (n : Nat) (b : R.V) {a : R.V} (h : R.El a) : R.El (R.act n b a) := by
  induction n with
  | zero => intro j _; rfl
  | succ n ih =>
    intro j hj
    simp only [act, vadd, smul]
    rw [ih j hj, pw_el R n h j hj]; grind
theorem mul_el (a : R.V) {b : R.V} (h : R.El b) : R.El (R.mul a b) := act_el R _ _ h
theorem mul_assoc {a b c : R.V} (ha : R.El a) (hb : R.El b) (hc : R.El c) : R.mul (R.mul a b) c = R.mul a (R.mul b c) := by
  rw [mul_comm R (mul_el R a hb) hc, mul_comm R hb hc]
  unfold mul
  exact act_act ..
theorem mul_add (a b c : R.V) : R.mul a (R.vadd b c) = R.vadd (R.mul a b) (R.mul a c) := act_add ..
theorem e0_el : R.El R.e0 := by
  intro j h
  have := R.hm
  unfold e0; rw [if_neg (by omega)]
theorem mul_one {a : R.V} (h : R.El a) : R.mul a R.e0 = a := mul_e0 R h
theorem mul_zero (a : R.V) : R.mul a R.vzero = R.vzero := act_zero ..
/-- Horner's rule. -/
def hor (b a : R.V) : Nat → R.V      -- hor n: the value after n rounds from the top
  | 0 => R.vzero
  | n + 1 => R.vadd (R.T (hor b a n)) (R.smul (b (R.m - 1 - n)) a)
theorem hor_inv (b a : R.V) (n : Nat) (h : n ≤ R.m) : R.vadd (R.pw (R.m - n) (R.hor b a n)) (R.act (R.m - n) b a) = R.mul b a := by
  induction n with
  | zero => simp only [hor, Nat.sub_zero, pw_zero]; unfold mul; funext j; simp only [vadd, vzero]; grind
  | succ n ih =>
    rw [← ih (by omega), show R.m - n = (R.m - (n + 1)) + 1 by omega]
    simp only [hor, pw_add, pw_smul, act, pw_T]
    rw [show R.m - 1 - n = R.m - (n + 1) by omega]
    simp only [pw]
    funext j; simp only [vadd]; grind
theorem hor_m (b a : R.V) : R.hor b a R.m = R.mul b a := by
  have := hor_inv R b a R.m (Nat.le_refl _)
  rw [← this, Nat.sub_self]; funext j; simp only [vadd, pw, act, vzero]; grind
end Rg
end Go.Cw
namespace Go.Cw
namespace Rg
variable {p : Nat} [NeZero p] (R : Rg p)
/-- The monic polynomial itself. -/
def fp : Nat → Fin p := fun j => if j < R.m then R.md j else if j = R.m then 1 else 0
theorem act_congr (n : Nat) {b c : R.V} (h : ∀ i, i < n → b i = c i) (a : R.V) : R.act n b a = R.act n c a := by
  induction n with
  | zero => rfl
  | succ n ih => simp only [act]; rw [ih (fun i hi => h i (by omega)), h n (by omega)]
theorem act_more (n k : Nat) {b : R.V} (h : ∀ i, n ≤ i → b i = 0) (a : R.V) : R.act (n + k) b a = R.act n b a := by
  induction k with
  | zero => rfl
  | succ k ih =>
    rw [Nat.add_succ]; simp only [act]; rw [ih, h (n + k) (by omega)]
    funext j; simp only [vadd, smul]; grind
theorem pw_m_e0 : R.pw R.m R.e0 = R.vneg (fun j => if j < R.m then R.md j else 0) := by
  have hm := R.hm
  rw [show R.m = (R.m - 1) + 1 by omega]
  simp only [pw]; rw [show R.m - 1 + 1 = R.m by omega, pw_e0 R _ (by omega)]
  funext j; unfold T vneg; dsimp only
  rw [if_pos rfl]
  by_cases h : j < R.m
  · rw [if_pos h, if_pos h]
    by_cases h2 : j = 0
    · rw [if_pos h2]; grind
    · rw [if_neg h2, if_neg (by omega)]; grind
  · rw [if_neg h, if_neg h]; grind
theorem act_fp_e0 : R.act (R.m + 1) R.fp R.e0 = R.vzero := by
  simp only [act]
  rw [pw_m_e0, act_e0 R R.m _ (Nat.le_refl _)]
  funext j; unfold vadd smul vneg vzero fp; dsimp only
  by_cases h : j < R.m
  · rw [if_pos h, if_pos h, if_neg (by omega), if_pos rfl, if_pos h]; grind
  · rw [if_neg h, if_neg (by omega), if_pos rfl, if_neg h]; grind
/-- The ring of a second polynomial over the same numbers. -/
def sub (d : Nat) (hd : 1 ≤ d) (g : Nat → Fin p) : Rg p := ⟨d, R.hp, hd, g⟩
/-- An ideal. -/
structure Ideal (P : R.V → Prop) : Prop where
  el : ∀ a, P a → R.El a
  zero : P R.vzero
  add : ∀ a b, P a → P b → P (R.vadd a b)
  smul : ∀ s a, P a → P (R.smul s a)
  T : ∀ a, P a → P (R.T a)
theorem Ideal.pw {P : R.V → Prop} (h : R.Ideal P) (n : Nat) {a : R.V} (ha : P a) : P (R.pw n a) := by
  induction n with
  | zero => exact ha
  | succ n ih => exact h.T _ ih
theorem Ideal.act {P : R.V → Prop} (h : R.Ideal P) (n : Nat) (b : R.V) {a : R.V} (ha : P a) : P (R.act n b a) := by
  induction n with
  | zero => exact h.zero
  | succ n ih => exact h.add _ _ ih (h.smul _ _ (h.pw R n ha))
/-- Nonzero numbers below p have inverses. -/
def PrimeF (p : Nat) [NeZero p] : Prop := ∀ s : Fin p, s ≠ 0 → ∃ t : Fin p, t * s = 1
theorem one_ne (R : Rg p) : (1 : Fin p) ≠ 0 := by
  intro h
  have h2 := congrArg Fin.val h
  have := R.hp
  simp at h2; omega
/-- A monic element of least degree. -/
structure Least (P : R.V → Prop) (d : Nat) (g : R.V) : Prop where
  lt : d < R.m
  mem : P g
  top : g d = 1
  deg : ∀ j, d < j → g j = 0
  least : ∀ c, P c → (∀ j, d ≤ j → c j = 0) → c = R.vzero
theorem exists_least (hp : PrimeF p) {P : R.V → Prop} (h : R.Ideal P) : ∀ n : Nat, ∀ a, P a → a ≠ R.vzero → (∀ j, n ≤ j → a j = 0) → ∃ d g, R.Least P d g := by
  intro n
  induction n with
  | zero =>
    intro a _ h2 h3
    exact absurd (funext fun j => h3 j (by omega)) h2
  | succ n ih =>
    intro a h1 h2 h3
    by_cases hs : ∃ c, P c ∧ c ≠ R.vzero ∧ ∀ j, n ≤ j → c j = 0
    · obtain ⟨c, hc1, hc2, hc3⟩ := hs
      exact ih c hc1 hc2 hc3
    · have han : a n ≠ 0 := by
        intro h0
        apply hs
        refine ⟨a, h1, h2, fun j hj => ?_⟩
        by_cases hj2 : j = n
        · rw [hj2]; exact h0
        · exact h3 j (by omega)
      obtain ⟨t, ht⟩ := hp (a n) han
      refine ⟨n, R.smul t a, ?_, h.smul _ _ h1, ht, ?_, ?_⟩
      · by_cases h5 : n < R.m
        · exact h5
        · exact absurd (h.el a h1 n (by omega)) han
      · intro j hj; unfold Rg.smul; rw [h3 j (by omega)]; grind
      · intro c hc hc2
        by_cases h6 : c = R.vzero
        · exact h6
        · exact absurd ⟨c, hc, h6, hc2⟩ hs
/-- What the ideal's least element divides: times X there and here differ by a multiple of it. -/
theorem T_diff {P : R.V → Prop} (_ : R.Ideal P) {d : Nat} {g : R.V} (hl : R.Least P d g) (hd : 1 ≤ d) (s : R.V) (hs : ∀ j, d ≤ j → s j = 0) :
    R.T s = R.vadd ((R.sub d hd g).T s) (R.smul (s (d - 1)) g) := by
  have h1 := hl.lt
  funext j
  show (if j < R.m then (if j = 0 then 0 else s (j - 1)) - s (R.m - 1) * R.md j else 0) =
    (if j < d then (if j = 0 then 0 else s (j - 1)) - s (d - 1) * g j else 0) + s (d - 1) * g j
  rw [hs (R.m - 1) (by omega)]
  by_cases h2 : j < d
  · rw [if_pos h2, if_pos (by omega)]; grind
  · rw [if_neg h2]
    by_cases h3 : j = d
    · rw [h3, hl.top, if_pos (by omega), if_neg (by omega)]; grind
    · rw [hl.deg j (by omega)]
      by_cases h4 : j < R.m
      · rw [if_pos h4, if_neg (by omega), hs (j - 1) (by omega)]; grind
      · rw [if_neg h4]; grind
theorem pw_diff {P : R.V → Prop} (h : R.Ideal P) {d : Nat} {g : R.V} (hl : R.Least P d g) (hd : 1 ≤ d) (n : Nat) :
    (∀ j, d ≤ j → (R.sub d hd g).pw n R.e0 j = 0) ∧ ∃ c, P c ∧ R.pw n R.e0 = R.vadd ((R.sub d hd g).pw n R.e0) c := by
  induction n with
  | zero =>
    refine ⟨fun j hj => ?_, R.vzero, h.zero, ?_⟩
    · show (if j = 0 then (1 : Fin p) else 0) = 0
      rw [if_neg (by omega)]
    · funext j; simp only [pw, vadd, vzero]; grind
  | succ n ih =>
    obtain ⟨h1, c, h2, h3⟩ := ih
    refine ⟨fun j hj => T_el (R.sub d hd g) _ j hj, ?_⟩
    have h4 := T_diff R h hl hd _ h1
    refine ⟨R.vadd (R.smul ((R.sub d hd g).pw n R.e0 (d - 1)) g) (R.T c), h.add _ _ (h.smul _ _ hl.mem) (h.T _ h2), ?_⟩
    show R.T (R.pw n R.e0) = R.vadd ((R.sub d hd g).T ((R.sub d hd g).pw n R.e0)) _
    rw [h3, T_add, h4]
    funext j; simp only [vadd]; grind
theorem act_diff {P : R.V → Prop} (h : R.Ideal P) {d : Nat} {g : R.V} (hl : R.Least P d g) (hd : 1 ≤ d) (b : R.V) (n : Nat) :
    (∀ j, d ≤ j → (R.sub d hd g).act n b R.e0 j = 0) ∧ ∃ c, P c ∧ R.act n b R.e0 = R.vadd ((R.sub d hd g).act n b R.e0) c := by
  induction n with
  | zero => exact ⟨fun j _ => rfl, R.vzero, h.zero, by funext j; show (0 : Fin p) = 0 + 0; grind⟩
  | succ n ih =>
    obtain ⟨h1, c, h2, h3⟩ := ih
    obtain ⟨k1, e, k2, k3⟩ := pw_diff R h hl hd n
    refine ⟨fun j hj => ?_, R.vadd c (R.smul (b n) e), h.add _ _ h2 (h.smul _ _ k2), ?_⟩
    · show (R.sub d hd g).act n b R.e0 j + b n * (R.sub d hd g).pw n R.e0 j = 0
      rw [h1 j hj, k1 j hj]; grind
    · show R.vadd (R.act n b R.e0) (R.smul (b n) (R.pw n R.e0)) = R.vadd (R.vadd ((R.sub d hd g).act n b R.e0) (R.smul (b n) ((R.sub d hd g).pw n R.e0))) _
      rw [h3, k3]
      funext j; simp only [vadd, smul]; grind
/-- The least element of an ideal divides the modulus. -/
theorem least_divides {P : R.V → Prop} (h : R.Ideal P) {d : Nat} {g : R.V} (hl : R.Least P d g) (hd : 1 ≤ d) :
    (R.sub d hd g).act (R.m + 1) R.fp (R.sub d hd g).e0 = (R.sub d hd g).vzero := by
  obtain ⟨h1, c, h2, h3⟩ := act_diff R h hl hd R.fp (R.m + 1)
  rw [act_fp_e0] at h3
  have h4 : (R.sub d hd g).act (R.m + 1) R.fp R.e0 = R.smul (-1) c := by
    funext j
    have := congrFun h3 j
    have h5 : (0 : Fin p) = (R.sub d hd g).act (R.m + 1) R.fp R.e0 j + c j := this
    show (R.sub d hd g).act (R.m + 1) R.fp R.e0 j = (-1 : Fin p) * c j
    generalize (R.sub d hd g).act (R.m + 1) R.fp R.e0 j = z at h5 ⊢
    grind
  have h6 : P ((R.sub d hd g).act (R.m + 1) R.fp R.e0) := by rw [h4]; exact h.smul _ _ h2
  exact hl.least _ h6 h1
/-- The elements of an ideal are multiples of its least element. -/
theorem multiple {P : R.V → Prop} (h : R.Ideal P) {d : Nat} {g : R.V} (hl : R.Least P d g) (n : Nat) : d + n ≤ R.m → ∀ c, P c → (∀ j, d + n ≤ j → c j = 0) → ∃ k : R.V, c = R.act n k g := by
  have hlow : ∀ i, d + i < R.m → (∀ j, d + i < j → R.pw i g j = 0) ∧ R.pw i g (d + i) = 1 := by
    intro i
    induction i with
    | zero => intro _; exact ⟨fun j hj => hl.deg j hj, hl.top⟩
    | succ i ih =>
      intro hi
      obtain ⟨h1, h2⟩ := ih (by omega)
      constructor
      · intro j hj
        show (if j < R.m then (if j = 0 then 0 else R.pw i g (j - 1)) - R.pw i g (R.m - 1) * R.md j else 0) = 0
        by_cases h4 : j < R.m
        · rw [if_pos h4, if_neg (by omega), h1 (j - 1) (by omega), h1 (R.m - 1) (by omega)]; grind
        · rw [if_neg h4]
      · show (if d + (i + 1) < R.m then (if d + (i + 1) = 0 then 0 else R.pw i g (d + (i + 1) - 1)) - R.pw i g (R.m - 1) * R.md (d + (i + 1)) else 0) = 1
        rw [if_pos hi, if_neg (by omega), show d + (i + 1) - 1 = d + i by omega, h2, h1 (R.m - 1) (by omega)]; grind
  induction n with
  | zero => intro _ c hc h2; exact ⟨R.vzero, by rw [hl.least c hc h2]; rfl⟩
  | succ n ih =>
    intro hn c hc h2
    obtain ⟨h3, h4⟩ := hlow n (by omega)
    obtain ⟨k, hk⟩ := ih (by omega) (R.vadd c (R.smul (- c (d + n)) (R.pw n g))) (h.add _ _ hc (h.smul _ _ (h.pw R n hl.mem))) (by
      intro j hj
      show c j + - c (d + n) * R.pw n g j = 0
      by_cases h5 : j = d + n
      · rw [h5, h4]; grind
      · rw [h2 j (by omega), h3 j (by omega)]; grind)
    refine ⟨fun i => if i = n then c (d + n) else k i, ?_⟩
    simp only [act]
    rw [if_pos trivial, act_congr R n (b := fun i => if i = n then c (d + n) else k i) (c := k) (fun i hi => if_neg (by omega)), ← hk]
    funext j; simp only [vadd, smul]; grind
/-- No monic polynomial of a degree from 1 to half of that of the modulus divides it. -/
def Irr : Prop := ∀ d (hd : 1 ≤ d) g, 2 * d ≤ R.m → (R.sub d hd g).act (R.m + 1) R.fp (R.sub d hd g).e0 ≠ (R.sub d hd g).vzero
theorem mul_zero_left (a : R.V) : R.mul R.vzero a = R.vzero := by
  unfold mul
  generalize R.m = n
  induction n with
  | zero => rfl
  | succ n ih => simp only [act]; rw [ih]; funext j; simp only [vadd, smul, vzero]; grind
theorem act_vadd (n : Nat) (b c a : R.V) : R.act n (R.vadd b c) a = R.vadd (R.act n b a) (R.act n c a) := by
  induction n with
  | zero => funext j; simp only [act, vadd, vzero]; grind
  | succ n ih => simp only [act]; rw [ih]; funext j; simp only [vadd, smul]; grind
theorem act_vsmul (n : Nat) (s : Fin p) (c a : R.V) : R.act n (R.smul s c) a = R.smul s (R.act n c a) := by
  induction n with
  | zero => funext j; simp only [act, smul, vzero]; grind
  | succ n ih => simp only [act]; rw [ih]; funext j; simp only [vadd, smul]; grind
theorem mul_T {b a : R.V} (hb : R.El b) (ha : R.El a) : R.mul (R.T b) a = R.T (R.mul b a) := by
  rw [mul_comm R (T_el R b) ha, mul_comm R hb ha]
  exact (T_act R R.m a b).symm
theorem vadd_el {a b : R.V} (ha : R.El a) (hb : R.El b) : R.El (R.vadd a b) := by
  intro j hj; unfold vadd; rw [ha j hj, hb j hj]; grind
theorem smul_el (s : Fin p) {a : R.V} (ha : R.El a) : R.El (R.smul s a) := by
  intro j hj; unfold smul; rw [ha j hj]; grind
theorem ideal_of {a : R.V} (ha : R.El a) : R.Ideal (fun c => ∃ b, R.El b ∧ c = R.mul b a) where
  el := by rintro _ ⟨b, _, rfl⟩; exact mul_el R b ha
  zero := ⟨R.vzero, fun _ _ => rfl, (mul_zero_left R a).symm⟩
  add := by rintro _ _ ⟨b, hb, rfl⟩ ⟨c, hc, rfl⟩; exact ⟨_, vadd_el R hb hc, (act_vadd ..).symm⟩
  smul := by rintro s _ ⟨b, hb, rfl⟩; exact ⟨_, smul_el R s hb, (act_vsmul ..).symm⟩
  T := by rintro _ ⟨b, hb, rfl⟩; exact ⟨_, T_el R b, (mul_T R hb ha).symm⟩
theorem ideal_ann {g : R.V} (hg : R.El g) : R.Ideal (fun c => R.El c ∧ R.mul c g = R.vzero) where
  el := fun _ h => h.1
  zero := ⟨fun _ _ => rfl, mul_zero_left R g⟩
  add := by
    rintro a b ⟨ha, ha2⟩ ⟨hb, hb2⟩
    refine ⟨vadd_el R ha hb, ?_⟩
    have : R.mul (R.vadd a b) g = R.vadd (R.mul a g) (R.mul b g) := act_vadd ..
    rw [this, ha2, hb2]; funext j; simp only [vadd, vzero]; grind
  smul := by
    rintro s a ⟨ha, ha2⟩
    refine ⟨smul_el R s ha, ?_⟩
    have : R.mul (R.smul s a) g = R.smul s (R.mul a g) := act_vsmul ..
    rw [this, ha2, smul_zero]
  T := by
    rintro a ⟨ha, ha2⟩
    refine ⟨T_el R a, ?_⟩
    rw [mul_T R ha hg, ha2, T_zero]
/-- The residues modulo an irreducible polynomial are a field. -/
theorem inverse (hp : PrimeF p) (hi : R.Irr) {a : R.V} (ha : R.El a) (h0 : a ≠ R.vzero) : ∃ b, R.El b ∧ R.mul b a = R.e0 := by
  have hI := ideal_of R ha
  obtain ⟨d, g, hl⟩ := exists_least R hp hI R.m a ⟨R.e0, e0_el R, by rw [mul_comm R (e0_el R) ha, mul_one R ha]⟩ h0 ha
  by_cases hd : d = 0
  · obtain ⟨b, hb, hb2⟩ := hl.mem
    refine ⟨b, hb, ?_⟩
    rw [← hb2]; funext j; unfold e0
    by_cases hj : j = 0
    · rw [if_pos hj, hj]; have := hl.top; rw [hd] at this; exact this
    · rw [if_neg hj]; exact hl.deg j (by omega)
  · have hd1 : 1 ≤ d := by omega
    have hlt := hl.lt
    have h1 := least_divides R hI hl hd1
    have h2 : ¬ 2 * d ≤ R.m := fun h => hi d hd1 g h h1
    have hgel := hI.el g hl.mem
    -- the other divisor
    obtain ⟨k, hk⟩ := multiple R hI hl (R.m - d) (by omega) (R.pw (R.m - d) g) (hI.pw R _ hl.mem) (by
      intro j hj; exact pw_el R _ hgel j (by omega))
    have hh : ∃ h : R.V, R.El h ∧ h (R.m - d) = 1 ∧ (∀ j, R.m - d < j → h j = 0) ∧ R.mul h g = R.vzero := by
      refine ⟨fun j => if j < R.m - d then - k j else if j = R.m - d then 1 else 0, ?_, ?_, ?_, ?_⟩
      · intro j hj; dsimp only; rw [if_neg (by omega), if_neg (by omega)]
      · dsimp only; rw [if_neg (by omega), if_pos rfl]
      · intro j hj; dsimp only; rw [if_neg (by omega), if_neg (by omega)]
      · unfold mul
        conv => lhs; rw [show R.m = (R.m - d + 1) + (d - 1) by omega]
        rw [act_more R (R.m - d + 1) (d - 1) (by intro i hi; rw [if_neg (by omega), if_neg (by omega)])]
        simp only [act]
        rw [if_neg (by omega), if_pos (by omega)]
        rw [act_congr R (R.m - d) (c := R.smul (-1) k) (fun i hi => by unfold smul; rw [if_pos (by omega)]; grind), act_vsmul, ← hk]
        funext j; simp only [vadd, smul, vzero]; grind
    obtain ⟨h, hel, htop, hdeg, hmul⟩ := hh
    have hJ := ideal_ann R hgel
    have hh0 : h ≠ R.vzero := by
      intro h5
      rw [h5] at htop
      exact one_ne R htop.symm
    obtain ⟨d2, g2, hl2⟩ := exists_least R hp hJ R.m h ⟨hel, hmul⟩ hh0 hel
    have h3 : d2 ≤ R.m - d := by
      by_cases h4 : d2 ≤ R.m - d
      · exact h4
      · exact absurd (hl2.least h ⟨hel, hmul⟩ (fun j hj => hdeg j (by omega))) hh0
    by_cases h4 : d2 = 0
    · have h5 : g2 = R.e0 := by
        funext j; unfold e0
        by_cases hj : j = 0
        · rw [if_pos hj, hj]; have := hl2.top; rw [h4] at this; exact this
        · rw [if_neg hj]; exact hl2.deg j (by omega)
      have h6 := hl2.mem.2
      rw [h5, mul_comm R (e0_el R) hgel, mul_one R hgel] at h6
      have := hl.top
      rw [h6] at this
      exact absurd this.symm (one_ne R)
    · exact absurd (least_divides R hJ hl2 (by omega)) (hi d2 (by omega) g2 (by omega))
end Rg
end Go.Cw
namespace Go.Cw
namespace Rg
variable {p : Nat} [NeZero p] (R : Rg p)
/-- Every nonzero element has an inverse. -/
def IsField : Prop := ∀ a, R.El a → a ≠ R.vzero → ∃ b, R.El b ∧ R.mul b a = R.e0
/-- The value of an element, as a polynomial, in another ring. -/
def phi (S : Rg p) (a : R.V) : S.V := S.act R.m a S.e0
theorem phi_add (S : Rg p) (a b : R.V) : R.phi S (R.vadd a b) = S.vadd (R.phi S a) (R.phi S b) := act_vadd ..
theorem phi_smul (S : Rg p) (s : Fin p) (a : R.V) : R.phi S (R.smul s a) = S.smul s (R.phi S a) := act_vsmul ..
theorem act_split (S : Rg p) (n : Nat) (a : S.V) (z : S.V) : S.act (n + 1) a z = S.vadd (S.smul (a 0) z) (S.T (S.act n (fun i => a (i + 1)) z)) := by
  induction n with
  | zero => simp only [act, pw, T_zero]; funext j; simp only [vadd, vzero]; grind
  | succ n ih =>
    rw [act, ih]
    simp only [act, T_add, T_smul, pw]
    funext j; simp only [vadd]; grind
theorem phi_T (S : Rg p) (h : S.act (R.m + 1) R.fp S.e0 = S.vzero) (a : R.V) : R.phi S (R.T a) = S.T (R.phi S a) := by
  have hm := R.hm
  -- T a = shift a - top * md
  have h1 : R.phi S (R.T a) = S.vadd (S.act R.m (fun j => if j = 0 then 0 else a (j - 1)) S.e0) (S.smul (- a (R.m - 1)) (S.act R.m R.md S.e0)) := by
    unfold phi
    rw [← act_vsmul, ← act_vadd]
    apply act_congr
    intro i hi
    unfold T; rw [if_pos hi]; simp only [vadd, smul]; grind
  have h2 : S.T (R.phi S a) = S.act (R.m + 1) (fun j => if j = 0 then 0 else a (j - 1)) S.e0 := by
    rw [act_split]
    unfold phi
    simp only [if_neg (Nat.succ_ne_zero _), Nat.add_sub_cancel]
    funext j; simp only [vadd, smul, if_pos]; grind
  have h3 : S.vadd (S.act R.m R.md S.e0) (S.pw R.m S.e0) = S.vzero := by
    rw [← h]
    simp only [act]
    have h4 : R.fp R.m = 1 := by unfold fp; rw [if_neg (by omega), if_pos rfl]
    have h5 : S.act R.m R.fp S.e0 = S.act R.m R.md S.e0 := act_congr S _ (fun i hi => by unfold fp; rw [if_pos hi]) _
    rw [h4, h5]; funext j; simp only [vadd, smul]; grind
  rw [h1, h2]
  simp only [act]
  rw [if_neg (by omega)]
  funext j
  have h6 := congrFun h3 j
  simp only [vadd, smul, vzero] at h6 ⊢
  grind
theorem phi_pw (S : Rg p) (h : S.act (R.m + 1) R.fp S.e0 = S.vzero) (n : Nat) (a : R.V) : R.phi S (R.pw n a) = S.pw n (R.phi S a) := by
  induction n with
  | zero => rfl
  | succ n ih => simp only [pw]; rw [phi_T R S h, ih]
theorem phi_zero (S : Rg p) : R.phi S R.vzero = S.vzero := by
  have := phi_smul R S 0 R.vzero
  have h2 : R.smul 0 R.vzero = R.vzero := smul_zero R 0
  rw [h2] at this
  rw [this]; funext j; simp only [smul, vzero]; grind
theorem phi_act (S : Rg p) (h : S.act (R.m + 1) R.fp S.e0 = S.vzero) (n : Nat) (b a : R.V) : R.phi S (R.act n b a) = S.act n b (R.phi S a) := by
  induction n with
  | zero => exact phi_zero R S
  | succ n ih => simp only [act]; rw [phi_add, phi_smul, phi_pw R S h, ih]
theorem phi_e0 (S : Rg p) : R.phi S R.e0 = S.e0 := by
  have hm := R.hm
  unfold phi
  rw [show R.m = 1 + (R.m - 1) by omega, act_more S 1 (R.m - 1) (fun i hi => by unfold e0; rw [if_neg (by omega)])]
  funext j; simp only [act, pw, vadd, vzero, smul]; unfold e0; grind
theorem phi_mul (S : Rg p) (h : S.act (R.m + 1) R.fp S.e0 = S.vzero) (b a : R.V) : R.phi S (R.mul b a) = S.mul (R.phi S b) (R.phi S a) := by
  unfold mul
  rw [phi_act R S h]
  have h1 : S.El (R.phi S b) := act_el S _ _ (e0_el S)
  have h2 : S.El (R.phi S a) := act_el S _ _ (e0_el S)
  have h3 := mul_comm S h1 h2
  unfold mul at h3
  rw [h3]
  conv => rhs; rw [show R.phi S b = S.act R.m b S.e0 from rfl, act_act]
  have h4 := mul_one S h2
  unfold mul at h4
  rw [h4]
/-- Where each nonzero element has an inverse, the modulus has no divisor. -/
theorem irr_of_field (hf : R.IsField) : R.Irr := by
  intro d hd g h2 h
  have hm := R.hm
  generalize hS : R.sub d hd g = S at h
  have hSm : S.m = d := by rw [← hS]; rfl
  have hel : R.El (S.fp) := by
    intro j hj; unfold fp; rw [if_neg (by omega), if_neg (by omega)]
  have hne : S.fp ≠ R.vzero := by
    intro h5
    have := congrFun h5 S.m
    unfold fp at this
    rw [if_neg (by omega), if_pos rfl] at this
    exact one_ne R this
  obtain ⟨b, hb, hb2⟩ := hf _ hel hne
  have h6 : R.phi S (S.fp) = S.vzero := by
    unfold phi
    rw [show R.m = S.m + 1 + (R.m - S.m - 1) by omega, act_more S (S.m + 1) _ (fun i hi => by unfold fp; rw [if_neg (by omega), if_neg (by omega)])]
    exact act_fp_e0 S
  have h7 := phi_mul R S h b (S.fp)
  rw [hb2, phi_e0, h6] at h7
  have h8 : S.mul (R.phi S b) S.vzero = S.vzero := mul_zero S _
  rw [h8] at h7
  have h9 := congrFun h7 0
  unfold e0 vzero at h9
  rw [if_pos rfl] at h9
  exact one_ne R h9
/-- Numbers below a prime have inverses. -/
theorem primeF_of {p : Nat} [NeZero p] (h2 : 2 ≤ p) (h : ∀ d, 2 ≤ d → d < p → p % d ≠ 0) : PrimeF p := by
  have key : ∀ n : Nat, ∀ s : Fin p, s.val ≤ n → s ≠ 0 → ∃ t : Fin p, t * s = 1 := by
    intro n
    induction n with
    | zero => intro s hs h0; exact absurd (Fin.ext (by show s.val = 0 % p; rw [Nat.zero_mod]; omega)) h0
    | succ n ih =>
      intro s hs h0
      have hs0 : s.val ≠ 0 := fun h => h0 (Fin.ext (by show s.val = 0 % p; rw [Nat.zero_mod]; omega))
      by_cases h1 : s.val = 1
      · refine ⟨1, ?_⟩
        have : s = 1 := Fin.ext (by show s.val = 1 % p; rw [Nat.mod_eq_of_lt (show 1 < p by omega)]; omega)
        rw [this]; grind
      · have hlt := s.isLt
        have hr := h s.val (by omega) hlt
        have hr2 := Nat.mod_lt p (show 0 < s.val by omega)
        obtain ⟨t, ht⟩ := ih ⟨p % s.val, by omega⟩ (by show p % s.val ≤ n; omega) (by
          intro h5; have h7 : p % s.val = 0 % p := congrArg Fin.val h5; rw [Nat.zero_mod] at h7; exact hr h7)
        refine ⟨t * (- Fin.ofNat p (p / s.val)), ?_⟩
        have h6 : (Fin.ofNat p (p / s.val)) * s + ⟨p % s.val, by omega⟩ = (0 : Fin p) := by
          apply Fin.ext
          simp only [Fin.val_add, Fin.val_mul, Fin.ofNat, Nat.mod_add_mod, Nat.mod_mul_mod]
          rw [show p / s.val * s.val + p % s.val = p by rw [Nat.mul_comm]; exact Nat.div_add_mod ..]
          simp
        generalize (Fin.ofNat p (p / s.val)) = k at h6 ⊢
        generalize (⟨p % s.val, by omega⟩ : Fin p) = r at h6 ht
        grind
  intro s hs
  exact key s.val s (Nat.le_refl _) hs
end Rg
end Go.Cw
namespace Go.Cw
namespace Rg
variable {p : Nat} [NeZero p] (R : Rg p)
def upd (c : Nat → Fin p) (k : Nat) (s : Fin p) : Nat → Fin p := fun j => if j = k then s else c j
theorem act_upd (n k : Nat) (c : Nat → Fin p) (s : Fin p) (a : R.V) (h : k < n) : R.act n (upd c k (c k + s)) a = R.vadd (R.act n c a) (R.smul s (R.pw k a)) := by
  induction n with
  | zero => omega
  | succ n ih =>
    simp only [act]
    by_cases hk : k = n
    · subst hk
      rw [act_congr R k (b := upd c k (c k + s)) (c := c) (fun i hi => by unfold upd; rw [if_neg (by omega)])]
      unfold upd; rw [if_pos rfl]; funext j; simp only [vadd, smul]; grind
    · rw [ih (by omega)]
      unfold upd; rw [if_neg (by omega)]; funext j; simp only [vadd, smul]; grind
/-- The product of polynomials, entry by entry: one step. -/
theorem conv_step (a b c : Nat → Fin p) (i j : Nat) (hi : i < R.m) (hj : j < R.m)
    (h : R.act (2 * R.m - 1) c R.e0 = R.vadd (R.act i a (R.act R.m b R.e0)) (R.smul (a i) (R.pw i (R.act j b R.e0)))) :
    R.act (2 * R.m - 1) (upd c (i + j) (c (i + j) + a i * b j)) R.e0 = R.vadd (R.act i a (R.act R.m b R.e0)) (R.smul (a i) (R.pw i (R.act (j + 1) b R.e0))) := by
  rw [act_upd R _ _ _ _ _ (by omega), h]
  simp only [act, pw_add, pw_smul, pw_pw]
  funext l; simp only [vadd, smul]; grind
theorem conv_row (a b c : Nat → Fin p) (i : Nat)
    (h : R.act (2 * R.m - 1) c R.e0 = R.vadd (R.act i a (R.act R.m b R.e0)) (R.smul (a i) (R.pw i (R.act R.m b R.e0)))) :
    R.act (2 * R.m - 1) c R.e0 = R.vadd (R.act (i + 1) a (R.act R.m b R.e0)) (R.smul (a (i + 1)) (R.pw (i + 1) (R.act 0 b R.e0))) := by
  rw [h]; simp only [act]
  rw [pw_zero, smul_zero]
  funext l; simp only [vadd, smul, vzero]; grind
/-- The reduction by the modulus: one step. -/
theorem red_step (c : Nat → Fin p) (i j : Nat) (X : R.V) (hi : R.m ≤ i) (hj : j < R.m)
    (h : R.vadd (R.act i c R.e0) (R.smul (c i) (R.vadd (R.pw i R.e0) (R.pw (i - R.m) (R.act j R.md R.e0)))) = X) :
    R.vadd (R.act i (upd c (i - R.m + j) (c (i - R.m + j) + -(c i) * R.md j)) R.e0) (R.smul (c i) (R.vadd (R.pw i R.e0) (R.pw (i - R.m) (R.act (j + 1) R.md R.e0)))) = X := by
  rw [act_upd R _ _ _ _ _ (by omega), ← h]
  simp only [act, pw_add, pw_smul, pw_pw]
  funext l; simp only [vadd, smul]; grind
theorem red_start (c : Nat → Fin p) (i : Nat) (X : R.V) (h : R.act (i + 1) c R.e0 = X) :
    R.vadd (R.act i c R.e0) (R.smul (c i) (R.vadd (R.pw i R.e0) (R.pw (i - R.m) (R.act 0 R.md R.e0)))) = X := by
  rw [← h]; simp only [act, pw_zero]
  funext l; simp only [vadd, smul, vzero]; grind
theorem red_end (c : Nat → Fin p) (i : Nat) (X : R.V) (hi : R.m ≤ i) (h : R.vadd (R.act i c R.e0) (R.smul (c i) (R.vadd (R.pw i R.e0) (R.pw (i - R.m) (R.act R.m R.md R.e0)))) = X) :
    R.act i c R.e0 = X := by
  have h1 : R.pw i R.e0 = R.pw (i - R.m) (R.pw R.m R.e0) := by rw [pw_pw, Nat.sub_add_cancel hi]
  have h2 : R.vadd (R.pw R.m R.e0) (R.act R.m R.md R.e0) = R.vzero := by
    rw [pw_m_e0, act_e0 R R.m _ (Nat.le_refl _)]
    funext j; simp only [vadd, vneg, vzero]; grind
  rw [h1, ← pw_add, h2, pw_zero, smul_zero] at h
  rw [← h]; funext l; simp only [vadd, vzero]; grind
end Rg
end Go.Cw
namespace Go.Cw
/-- A field. -/
class Fi (K : Type) extends Zero K, _root_.One K, Add K, Mul K, Neg K where
  inv : K → K
  add_assoc : ∀ a b c : K, a + b + c = a + (b + c)
  add_comm : ∀ a b : K, a + b = b + a
  zero_add : ∀ a : K, 0 + a = a
  neg_add : ∀ a : K, -a + a = 0
  mul_assoc : ∀ a b c : K, a * b * c = a * (b * c)
  mul_comm : ∀ a b : K, a * b = b * a
  one_mul : ∀ a : K, 1 * a = a
  mul_add : ∀ a b c : K, a * (b + c) = a * b + a * c
  one_ne : (1 : K) ≠ 0
  inv_mul : ∀ a : K, a ≠ 0 → inv a * a = 1
  inv_zero : inv 0 = 0
namespace Fi
variable {K : Type} [Fi K]
instance : Sub K := ⟨fun a b => a + -b⟩
theorem sub_eq (a b : K) : a - b = a + -b := rfl
theorem add_left_comm (a b c : K) : a + (b + c) = b + (a + c) := by rw [← add_assoc, add_comm a b, add_assoc]
theorem mul_left_comm (a b c : K) : a * (b * c) = b * (a * c) := by rw [← mul_assoc, mul_comm a b, mul_assoc]
theorem add_zero (a : K) : a + 0 = a := by rw [add_comm, zero_add]
theorem add_neg (a : K) : a + -a = 0 := by rw [add_comm, neg_add]
theorem mul_one (a : K) : a * 1 = a := by rw [mul_comm, one_mul]
theorem add_mul (a b c : K) : (a + b) * c = a * c + b * c := by rw [mul_comm, mul_add, mul_comm c a, mul_comm c b]
theorem add_left_cancel {a b c : K} (h : a + b = a + c) : b = c := by
  have := congrArg (-a + ·) h
  simp only [← add_assoc, neg_add, zero_add] at this; exact this
theorem mul_zero (a : K) : a * 0 = 0 := by
  apply add_left_cancel (a := a * 0)
  rw [← mul_add, zero_add, add_zero]
theorem zero_mul (a : K) : 0 * a = 0 := by rw [mul_comm, mul_zero]
theorem neg_unique {a b : K} (h : a + b = 0) : b = -a := by
  apply add_left_cancel (a := a); rw [h, add_neg]
theorem mul_neg (a b : K) : a * -b = -(a * b) := neg_unique (by rw [← mul_add, add_neg, mul_zero])
theorem neg_mul (a b : K) : -a * b = -(a * b) := by rw [mul_comm, mul_neg, mul_comm]
theorem neg_neg (a : K) : - -a = a := (neg_unique (neg_add a)).symm
theorem neg_add_rev (a b : K) : -(a + b) = -a + -b := (neg_unique (by
  rw [add_assoc, add_left_comm b, ← add_assoc a, add_neg, add_neg, zero_add])).symm
theorem sub_self (a : K) : a - a = 0 := add_neg a
theorem eq_of_sub {a b : K} (h : a - b = 0) : a = b := by
  have := neg_unique h
  have h2 := congrArg (fun x => - x) this
  simp only [neg_neg] at h2; exact h2.symm
theorem mul_inv {a : K} (h : a ≠ 0) : a * inv a = 1 := by rw [mul_comm, inv_mul a h]
theorem eq_zero_of_mul {a b : K} (h : a * b = 0) (ha : a ≠ 0) : b = 0 := by
  rw [← one_mul b, ← inv_mul a ha, mul_assoc, h, mul_zero]
theorem mul_ne {a b : K} (ha : a ≠ 0) (hb : b ≠ 0) : a * b ≠ 0 := fun h => hb (eq_zero_of_mul h ha)
theorem mul_left_cancel {a b c : K} (ha : a ≠ 0) (h : a * b = a * c) : b = c := by
  rw [← one_mul b, ← one_mul c, ← inv_mul a ha, mul_assoc, mul_assoc, h]
instance : Std.Associative (α := K) (· + ·) := ⟨add_assoc⟩
instance : Std.Commutative (α := K) (· + ·) := ⟨add_comm⟩
instance : Std.Associative (α := K) (· * ·) := ⟨mul_assoc⟩
instance : Std.Commutative (α := K) (· * ·) := ⟨mul_comm⟩
/-- The value of a polynomial, constant first. -/
def ev : List K → K → K
  | [], _ => 0
  | c :: l, x => c + x * ev l x
def sy (r : K) : List K → List K
  | [] => []
  | [_] => []
  | _ :: d :: l => ev (d :: l) r :: sy r (d :: l)
theorem ev_sy (r x : K) : ∀ l : List K, ev l x - ev l r = (x - r) * ev (sy r l) x
  | [] => by simp only [ev, sy, sub_self, mul_zero]
  | [c] => by simp only [ev, sy, mul_zero, sub_self]
  | c :: d :: l => by
    have ih := ev_sy r x (d :: l)
    show c + x * ev (d :: l) x - (c + r * ev (d :: l) r) = (x - r) * (ev (d :: l) r + x * ev (sy r (d :: l)) x)
    generalize ev (d :: l) x = u at ih ⊢
    generalize ev (d :: l) r = v at ih ⊢
    rw [mul_add (x - r), mul_left_comm (x - r) x, ← ih]
    simp only [sub_eq, add_mul, mul_add, neg_mul, mul_neg, neg_add_rev]
    have h1 : c + x * u + (-c + -(r * v)) = c + -c + (x * u + -(r * v)) := by ac_rfl
    have h2 : x * v + -(r * v) + (x * u + -(x * v)) = x * v + -(x * v) + (x * u + -(r * v)) := by ac_rfl
    rw [h1, h2, add_neg, add_neg]
theorem sy_zero (r : K) : ∀ l : List K, (∀ y ∈ sy r l, y = 0) → ev l r = 0 → ∀ c ∈ l, c = 0
  | [], _, _ => by simp
  | [c], _, h => by
    simp only [ev, mul_zero, add_zero] at h
    simp [h]
  | c :: d :: l, h1, h2 => by
    have h3 : ev (d :: l) r = 0 := h1 _ (by simp [sy])
    have h4 := sy_zero r (d :: l) (fun y hy => h1 y (by simp [sy, hy])) h3
    rw [ev, h3, mul_zero, add_zero] at h2
    intro x hx
    rcases List.mem_cons.1 hx with h5 | h5
    · rw [h5, h2]
    · exact h4 x h5
theorem sy_length (r : K) : ∀ l : List K, (sy r l).length = l.length - 1
  | [] => rfl
  | [_] => rfl
  | c :: d :: l => by simp [sy, sy_length r (d :: l)]
/-- A polynomial that is not 0 has fewer roots than coefficients. -/
theorem roots_lt (n : Nat) : ∀ l : List K, l.length ≤ n → (∃ c ∈ l, c ≠ 0) → ∀ rs : List K, rs.Nodup → (∀ r ∈ rs, ev l r = 0) → rs.length < l.length := by
  induction n with
  | zero =>
    intro l hl ⟨c, hc, _⟩
    have : l = [] := by cases l with
      | nil => rfl
      | cons => simp at hl
    rw [this] at hc; simp at hc
  | succ n ih =>
    intro l hl hc rs hnd hr
    have hpos : 0 < l.length := by obtain ⟨c, hc, _⟩ := hc; exact List.length_pos_of_mem hc
    match rs, hnd, hr with
    | [], _, _ => simpa using hpos
    | r :: rs, hnd, hr =>
      have h1 := hr r (by simp)
      have h2 := ih (sy r l) (by rw [sy_length]; omega) (by
        by_cases h : ∃ c ∈ sy r l, c ≠ 0
        · exact h
        · obtain ⟨c, hc1, hc2⟩ := hc
          exact absurd (sy_zero r l (fun y hy => by by_cases h5 : y = 0; exact h5; exact absurd ⟨y, hy, h5⟩ h) h1 c hc1) hc2) rs (List.nodup_cons.1 hnd).2 (by
        intro x hx
        have h3 := ev_sy r x l
        rw [hr x (by simp [hx]), h1, sub_self] at h3
        refine eq_zero_of_mul h3.symm ?_
        intro h4
        rw [eq_of_sub h4] at hx
        exact (List.nodup_cons.1 hnd).1 hx)
      rw [sy_length] at h2
      simp; omega
end Fi
end Go.Cw
namespace Go.Cw
namespace Fi
variable {K : Type} [Fi K]
def pow (a : K) : Nat → K
  | 0 => 1
  | n + 1 => pow a n * a
theorem pow_add (a : K) (m n : Nat) : pow a (m + n) = pow a m * pow a n := by
  induction n with
  | zero => simp only [Nat.add_zero, pow, mul_one]
  | succ n ih => rw [Nat.add_succ]; simp only [pow]; rw [ih, mul_assoc]
theorem pow_mul (a : K) (m n : Nat) : pow a (m * n) = pow (pow a m) n := by
  induction n with
  | zero => rfl
  | succ n ih => rw [Nat.mul_succ, pow_add, ih]; rfl
theorem one_pow (n : Nat) : pow (1 : K) n = 1 := by
  induction n with
  | zero => rfl
  | succ n ih => simp only [pow, ih, mul_one]
theorem mul_pow (a b : K) (n : Nat) : pow (a * b) n = pow a n * pow b n := by
  induction n with
  | zero => simp only [pow, mul_one]
  | succ n ih => simp only [pow, ih]; ac_rfl
theorem pow_ne {a : K} (h : a ≠ 0) (n : Nat) : pow a n ≠ 0 := by
  induction n with
  | zero => exact one_ne
  | succ n ih => exact mul_ne ih h
theorem pow_sub {a : K} (h : a ≠ 0) {m n : Nat} (hmn : m ≤ n) (he : pow a m = pow a n) : pow a (n - m) = 1 := by
  apply mul_left_cancel (pow_ne h m)
  rw [← pow_add, Nat.add_sub_cancel' hmn, mul_one, he]
/-- n is the order of a. -/
structure Ord (a : K) (n : Nat) : Prop where
  pos : 0 < n
  one : pow a n = 1
  least : ∀ k, 0 < k → k < n → pow a k ≠ 1
theorem exists_ord {a : K} : ∀ n : Nat, 0 < n → pow a n = 1 → ∃ m, m ≤ n ∧ Ord a m := by
  intro n
  induction n using Nat.strongRecOn with
  | _ n ih =>
    intro h0 h1
    by_cases h : ∃ k, 0 < k ∧ k < n ∧ pow a k = 1
    · obtain ⟨k, h2, h3, h4⟩ := h
      obtain ⟨m, h5, h6⟩ := ih k h3 h2 h4
      exact ⟨m, by omega, h6⟩
    · exact ⟨n, Nat.le_refl _, h0, h1, fun k h2 h3 h4 => h ⟨k, h2, h3, h4⟩⟩
theorem pow_dvd {a : K} {n k : Nat} (h : pow a n = 1) (hk : n ∣ k) : pow a k = 1 := by
  obtain ⟨c, rfl⟩ := hk
  rw [pow_mul, h, one_pow]
theorem Ord.dvd {a : K} {n k : Nat} (h : Ord a n) (hk : pow a k = 1) : n ∣ k := by
  have h1 := Nat.div_add_mod k n
  have h2 : pow a (k % n) = 1 := by
    rw [← h1, pow_add, pow_dvd h.one ⟨_, rfl⟩, one_mul] at hk; exact hk
  by_cases h3 : k % n = 0
  · exact Nat.dvd_of_mod_eq_zero h3
  · exact absurd h2 (h.least _ (by omega) (Nat.mod_lt _ h.pos))
theorem ord_of {a : K} {n : Nat} (h0 : 0 < n) (h1 : pow a n = 1) (h2 : ∀ k, pow a k = 1 → n ∣ k) : Ord a n :=
  ⟨h0, h1, fun k hk hkn h => by have := Nat.le_of_dvd hk (h2 k h); omega⟩
theorem Ord.pow {a : K} {c d : Nat} (h : Ord a (c * d)) (hc : 0 < c) : Ord (Fi.pow a c) d := by
  have hd : 0 < d := Nat.pos_of_mul_pos_left h.pos 
  refine ord_of hd (by rw [← pow_mul, h.one]) fun k hk => ?_
  rw [← pow_mul] at hk
  exact Nat.dvd_of_mul_dvd_mul_left hc (h.dvd hk)
theorem Ord.mul {a b : K} {m n : Nat} (ha : Ord a m) (hb : Ord b n) (hc : Nat.Coprime m n) : Ord (a * b) (m * n) := by
  refine ord_of (Nat.mul_pos ha.pos hb.pos) ?_ fun k hk => ?_
  · rw [mul_pow, pow_dvd ha.one ⟨n, rfl⟩, pow_dvd hb.one ⟨m, Nat.mul_comm ..⟩, mul_one]
  · have h1 : Fi.pow a (k * n) = 1 := by
      have := congrArg (fun x => Fi.pow x n) hk
      simp only [← pow_mul, one_pow] at this
      rw [mul_pow, pow_dvd hb.one (Nat.dvd_mul_left n k), mul_one] at this; exact this
    have h2 : Fi.pow b (k * m) = 1 := by
      have := congrArg (fun x => Fi.pow x m) hk
      simp only [← pow_mul, one_pow] at this
      rw [mul_pow, pow_dvd ha.one (Nat.dvd_mul_left m k), one_mul] at this; exact this
    have h3 := hc.dvd_of_dvd_mul_right (ha.dvd h1)
    have h4 := hc.symm.dvd_of_dvd_mul_right (hb.dvd h2)
    exact hc.mul_dvd_of_dvd_of_dvd h3 h4
/-- The highest power of r in n. -/
theorem strip (r : Nat) (hr : 2 ≤ r) : ∀ n : Nat, 0 < n → ∃ j c, n = r ^ j * c ∧ ¬ r ∣ c := by
  intro n
  induction n using Nat.strongRecOn with
  | _ n ih =>
    intro h0
    by_cases h : r ∣ n
    · obtain ⟨c, rfl⟩ := h
      have hc : 0 < c := Nat.pos_of_mul_pos_left h0
      obtain ⟨j, e, h1, h2⟩ := ih c (by
        have := Nat.mul_le_mul_right c hr; omega) hc
      exact ⟨j + 1, e, by rw [h1, Nat.pow_succ]; ac_rfl, h2⟩
    · exact ⟨0, n, by simp, h⟩
theorem least_factor (n : Nat) (h : 2 ≤ n) : ∃ r, 2 ≤ r ∧ r ∣ n ∧ ∀ d, d ∣ r → d = 1 ∨ d = r := by
  induction n using Nat.strongRecOn with
  | _ n ih =>
    by_cases hp : ∃ d, d ∣ n ∧ d ≠ 1 ∧ d ≠ n
    · obtain ⟨d, h1, h2, h3⟩ := hp
      have h4 := Nat.le_of_dvd (by omega) h1
      have h5 : d ≠ 0 := by rintro rfl; simp at h1; omega
      obtain ⟨r, h6, h7, h8⟩ := ih d (by omega) (by omega)
      exact ⟨r, h6, Nat.dvd_trans h7 h1, h8⟩
    · refine ⟨n, h, Nat.dvd_refl _, fun d hd => ?_⟩
      by_cases h1 : d = 1
      · exact .inl h1
      · by_cases h2 : d = n
        · exact .inr h2
        · exact absurd ⟨d, hd, h1, h2⟩ hp
/-- From two orders, one of which does not divide the other, to a greater one. -/
theorem ord_more {a b : K} {m n : Nat} (ha : Ord a m) (hb : Ord b n) (h : ¬ n ∣ m) : ∃ c : K, ∃ k, Ord c k ∧ m < k := by
  have hg0 : 0 < Nat.gcd m n := Nat.gcd_pos_of_pos_left _ ha.pos
  obtain ⟨g, hg⟩ := Nat.gcd_dvd_right m n
  have hg1 : g ≠ 0 := by rintro rfl; have := hb.pos; omega
  have hg2 : g ≠ 1 := by
    rintro rfl; apply h; rw [hg, Nat.mul_one]; exact Nat.gcd_dvd_left m n
  obtain ⟨r, hr2, hrg, hrp⟩ := least_factor g (by omega)
  obtain ⟨j, c, hm, hc⟩ := strip r hr2 m ha.pos
  obtain ⟨e, d, hn, hd⟩ := strip r hr2 n hb.pos
  have hje : j < e := by
    by_cases hje : j < e
    · exact hje
    · have h1 : r ^ e ∣ m := by rw [hm]; exact Nat.dvd_mul_right_of_dvd (Nat.pow_dvd_pow r (by omega)) c
      have h2 : r ^ e ∣ n := by rw [hn]; exact ⟨d, rfl⟩
      obtain ⟨u, hu⟩ := Nat.dvd_gcd h1 h2
      have h3 : r ^ e * d = r ^ e * (u * g) := by rw [← hn, ← Nat.mul_assoc, ← hu]; exact hg
      have h4 := Nat.eq_of_mul_eq_mul_left (Nat.pow_pos (by omega)) h3
      exact absurd (by rw [h4]; exact Nat.dvd_mul_left_of_dvd hrg u) hd
  have hcop : Nat.Coprime c (r ^ e) := by
    apply Nat.Coprime.pow_right
    rcases hrp _ (Nat.gcd_dvd_right c r) with h1 | h1
    · exact h1
    · exact absurd (by rw [← h1]; exact Nat.gcd_dvd_left c r) hc
  have ha2 : Ord (Fi.pow a (r ^ j)) c := Ord.pow (by rw [← hm]; exact ha) (Nat.pow_pos (by omega))
  have hd0 : 0 < d := by
    rcases Nat.eq_zero_or_pos d with h1 | h1
    · exact absurd (by rw [h1]; exact Nat.dvd_zero r) hd
    · exact h1
  have hb2 : Ord (Fi.pow b d) (r ^ e) := Ord.pow (by rw [Nat.mul_comm, ← hn]; exact hb) hd0
  refine ⟨_, _, ha2.mul hb2 hcop, ?_⟩
  have h5 : r ^ j < r ^ e := Nat.pow_lt_pow_of_lt (by omega) hje
  have hc0 := ha2.pos
  rw [hm, Nat.mul_comm]
  exact Nat.mul_lt_mul_of_pos_left h5 hc0
end Fi
end Go.Cw
namespace Go.Cw
theorem nodup_le {α : Type} : ∀ (l r : List α), l.Nodup → (∀ x ∈ l, x ∈ r) → l.length ≤ r.length := by
  classical
  intro l
  induction l with
  | nil => intro r _ _; simp
  | cons x l ih =>
    intro r hn hs
    have h1 := ih (r.erase x) (List.nodup_cons.1 hn).2 (by
      intro y hy
      have hyx : y ≠ x := by rintro rfl; exact (List.nodup_cons.1 hn).1 hy
      exact (List.mem_erase_of_ne hyx).2 (hs y (by simp [hy])))
    have h2 := List.length_erase_of_mem (hs x (by simp))
    have h3 : 0 < r.length := List.length_pos_of_mem (hs x (by simp))
    simp; omega
namespace Fi
variable {K : Type} [Fi K]
theorem pow_inj {a : K} (h : a ≠ 0) {n : Nat} (ho : ∀ k, 0 < k → k < n → pow a k ≠ 1) : ((List.range n).map (pow a)).Nodup := by
  rw [List.nodup_iff_pairwise_ne, List.pairwise_map]
  refine List.Pairwise.imp_of_mem ?_ (List.pairwise_lt_range (n := n))
  intro i j hi hj hij he
  rw [List.mem_range] at hi hj
  exact ho (j - i) (by omega) (by omega) (pow_sub h (by omega) he)
theorem exists_pow_one {a : K} (h : a ≠ 0) (all : List K) (hall : ∀ x : K, x ≠ 0 → x ∈ all) : ∃ k, 0 < k ∧ pow a k = 1 := by
  by_cases hk : ∃ k, 0 < k ∧ pow a k = 1
  · exact hk
  · have h1 := pow_inj h (n := all.length + 1) (fun k h0 _ h1 => hk ⟨k, h0, h1⟩)
    have h2 := nodup_le _ all h1 (by
      intro x hx
      obtain ⟨k, _, rfl⟩ := List.mem_map.1 hx
      exact hall _ (pow_ne h k))
    simp at h2; omega
theorem ord_le {a : K} {n : Nat} (h : a ≠ 0) (ho : Ord a n) (all : List K) (hall : ∀ x : K, x ≠ 0 → x ∈ all) : n ≤ all.length := by
  have h2 := nodup_le _ all (pow_inj h ho.least) (by
    intro x hx
    obtain ⟨k, _, rfl⟩ := List.mem_map.1 hx
    exact hall _ (pow_ne h k))
  simpa using h2
theorem ev_pow (x : K) : ∀ n : Nat, ev (List.replicate n 0 ++ [1]) x = pow x n
  | 0 => by simp only [List.replicate, List.nil_append, ev, mul_zero, add_zero, pow]
  | n + 1 => by
    show 0 + x * ev (List.replicate n 0 ++ [1]) x = _
    rw [ev_pow x n, zero_add, mul_comm]; rfl
theorem ord_ne {a : K} {n : Nat} (ho : Ord a n) : a ≠ 0 := by
  rintro rfl
  have h1 := ho.one
  obtain ⟨m, rfl⟩ : ∃ m, n = m + 1 := ⟨n - 1, by have := ho.pos; omega⟩
  simp only [pow, mul_zero] at h1
  exact one_ne h1.symm
/-- The nonzero elements of a finite field are the powers of one of them. -/
theorem cyclic (all : List K) (hnd : all.Nodup) (h0 : ∀ x ∈ all, x ≠ 0) (hall : ∀ x : K, x ≠ 0 → x ∈ all) : ∃ a : K, Ord a all.length := by
  have key : ∀ d n : Nat, all.length - n ≤ d → (∃ a : K, Ord a n) → ∃ a : K, Ord a all.length := by
    intro d
    induction d with
    | zero =>
      rintro n hn ⟨a, ha⟩
      have := ord_le (ord_ne ha) ha all hall
      exact ⟨a, by rw [show all.length = n by omega]; exact ha⟩
    | succ d ih =>
      rintro n hn ⟨a, ha⟩
      by_cases hb : ∃ b : K, ∃ m, Ord b m ∧ ¬ m ∣ n
      · obtain ⟨b, m, hb, hm⟩ := hb
        obtain ⟨c, k, hc, hk⟩ := ord_more ha hb hm
        exact ih k (by have := ord_le (ord_ne hc) hc all hall; omega) ⟨c, hc⟩
      · have hle := ord_le (ord_ne ha) ha all hall
        have hroots : ∀ x ∈ all, ev (-1 :: (List.replicate (n - 1) 0 ++ [1])) x = 0 := by
          intro x hx
          obtain ⟨k, hk0, hk1⟩ := exists_pow_one (h0 x hx) all hall
          obtain ⟨m, _, hm⟩ := exists_ord k hk0 hk1
          have hmn : m ∣ n := by
            by_cases h : m ∣ n
            · exact h
            · exact absurd ⟨x, m, hm, h⟩ hb
          rw [ev, ev_pow, mul_comm]
          have h1 : pow x (n - 1) * x = pow x n := by
            obtain ⟨q, rfl⟩ : ∃ q, n = q + 1 := ⟨n - 1, by have := ha.pos; omega⟩
            rfl
          rw [h1, pow_dvd hm.one hmn, neg_add]
        have h2 := roots_lt _ _ (Nat.le_refl _) ⟨1, by simp, one_ne⟩ all hnd hroots
        simp at h2
        have := ha.pos
        exact ⟨a, by rw [show all.length = n by omega]; exact ha⟩
  exact key _ 1 (Nat.le_refl _) ⟨1, by omega, one_pow 1, fun k h1 h2 => by omega⟩
end Fi
end Go.Cw
namespace Go.Cw
namespace Rg
variable {p : Nat} [NeZero p]
/-- The field of the residues. -/
structure Kt (R : Rg p) (h : R.IsField) where
  v : R.V
  el : R.El v
theorem Kt.ext {R : Rg p} {h : R.IsField} {a b : Kt R h} (e : a.v = b.v) : a = b := by
  cases a; cases b; cases e; rfl
theorem vneg_el (R : Rg p) {a : R.V} (ha : R.El a) : R.El (R.vneg a) := by
  intro j hj; unfold vneg; rw [ha j hj]; grind
theorem vzero_el (R : Rg p) : R.El R.vzero := fun _ _ => rfl
open Classical in
noncomputable def Kt.inv {R : Rg p} {h : R.IsField} (a : Kt R h) : Kt R h :=
  if h0 : a.v = R.vzero then ⟨R.vzero, vzero_el R⟩ else ⟨(h a.v a.el h0).choose, (h a.v a.el h0).choose_spec.1⟩
noncomputable instance (R : Rg p) (h : R.IsField) : Fi (Kt R h) where
  zero := ⟨R.vzero, vzero_el R⟩
  one := ⟨R.e0, e0_el R⟩
  add a b := ⟨R.vadd a.v b.v, vadd_el R a.el b.el⟩
  mul a b := ⟨R.mul a.v b.v, mul_el R _ b.el⟩
  neg a := ⟨R.vneg a.v, vneg_el R a.el⟩
  inv := Kt.inv
  add_assoc a b c := Kt.ext (by funext j; show a.v j + b.v j + c.v j = a.v j + (b.v j + c.v j); grind)
  add_comm a b := Kt.ext (by funext j; show a.v j + b.v j = b.v j + a.v j; grind)
  zero_add a := Kt.ext (by funext j; show 0 + a.v j = a.v j; grind)
  neg_add a := Kt.ext (by funext j; show -a.v j + a.v j = 0; grind)
  mul_assoc a b c := Kt.ext (mul_assoc R a.el b.el c.el)
  mul_comm a b := Kt.ext (mul_comm R a.el b.el)
  one_mul a := Kt.ext (by show R.mul R.e0 a.v = a.v; rw [mul_comm R (e0_el R) a.el, mul_one R a.el])
  mul_add a b c := Kt.ext (mul_add R a.v b.v c.v)
  one_ne := by
    intro e
    have h1 := congrArg (fun a => a.v 0) e
    have h2 : R.e0 0 = R.vzero 0 := h1
    unfold e0 vzero at h2
    rw [if_pos rfl] at h2
    exact one_ne R h2
  inv_mul a ha := by
    have h0 : a.v ≠ R.vzero := fun e => ha (Kt.ext e)
    apply Kt.ext
    show R.mul (Kt.inv a).v a.v = R.e0
    unfold Kt.inv; rw [dif_neg h0]
    exact (h a.v a.el h0).choose_spec.2
  inv_zero := by
    show Kt.inv (⟨R.vzero, vzero_el R⟩ : Kt R h) = _
    unfold Kt.inv; rw [dif_pos rfl]; rfl
end Rg
end Go.Cw
namespace Go.Cw

/-- A field's description. -/
structure Fld where
  P : Int
  M : Int
  mod : List Int

/-- The order of a field with these numbers, or 0. -/
def ordS (p m : Int) : Int := if 2 ≤ p ∧ 1 ≤ m ∧ m ≤ 8 ∧ p ^ m.toNat ≤ 256 then p ^ m.toNat else 0

theorem pow_succ_toNat (p i : Int) (h : 0 ≤ i) : p ^ (i + 1).toNat = p ^ i.toNat * p := by
  rw [show (i + 1).toNat = i.toNat + 1 by omega, Int.pow_succ]

theorem pow_pos_of (p : Int) (h : 2 ≤ p) (n : Nat) : 1 ≤ p ^ n := by
  induction n with
  | zero => simp
  | succ n ih =>
    rw [Int.pow_succ]
    have := Int.mul_le_mul_of_nonneg_left (show 1 ≤ p by omega) (show 0 ≤ p ^ n by omega)
    rw [Int.mul_one] at this
    omega

theorem pow_mono_of (p : Int) (h : 2 ≤ p) {a b : Nat} (hab : a ≤ b) : p ^ a ≤ p ^ b := by
  obtain ⟨c, rfl⟩ := Nat.exists_eq_add_of_le hab
  rw [Int.pow_add]
  have h1 := pow_pos_of p h a
  have h2 := pow_pos_of p h c
  have := Int.mul_le_mul_of_nonneg_left h2 (show 0 ≤ p ^ a by omega)
  rw [Int.mul_one] at this
  exact this

theorem mul_small {a b : Int} (ha : 0 ≤ a) (ha2 : a ≤ 256) (hb : 0 ≤ b) (hb2 : b ≤ 256) : 0 ≤ a * b ∧ a * b ≤ 65536 := by
  refine ⟨Int.mul_nonneg ha hb, ?_⟩
  have := Int.mul_le_mul ha2 hb2 hb (show (0 : Int) ≤ 256 by omega)
  omega

theorem ordS_big (p m i : Int) (hp : 2 ≤ p) (h0 : 0 ≤ i) (hi : i < m) (hb : 256 < p ^ (i + 1).toNat) : ordS p m = 0 := by
  unfold ordS
  rw [if_neg]
  rintro ⟨_, _, _, h⟩
  have := pow_mono_of p hp (show (i + 1).toNat ≤ m.toNat by omega)
  omega

theorem ordS_bad (p m : Int) (h : p < 2 ∨ 256 < p ∨ m < 1 ∨ 8 < m) : ordS p m = 0 := by
  unfold ordS
  rw [if_neg]
  rintro ⟨h1, h2, h3, h4⟩
  have := pow_mono_of p h1 (show 1 ≤ m.toNat by omega)
  rw [Int.pow_one] at this
  omega

theorem ordS_ok (p m : Int) (h1 : 2 ≤ p) (h2 : 1 ≤ m) (h3 : m ≤ 8) (h4 : p ^ m.toNat ≤ 256) : ordS p m = p ^ m.toNat := by
  unfold ordS
  rw [if_pos ⟨h1, h2, h3, h4⟩]

theorem ordS_pos {p m : Int} (h : ordS p m ≠ 0) : 2 ≤ p ∧ p ≤ 256 ∧ 1 ≤ m ∧ m ≤ 8 ∧ ordS p m = p ^ m.toNat ∧ 2 ≤ ordS p m ∧ ordS p m ≤ 256 := by
  unfold ordS at h ⊢
  split at h
  · rename_i h1
    rw [if_pos h1]
    have h2 := pow_mono_of p h1.1 (show 1 ≤ m.toNat by omega)
    rw [Int.pow_one] at h2
    omega
  · omega

/-- No number from 2 to below n divides n. -/
def noDiv (n : Int) : Prop := ∀ d : Int, 2 ≤ d → d < n → n % d ≠ 0
instance (n : Int) : Decidable (noDiv n) :=
  decidable_of_iff (∀ d : Nat, d < n.toNat → 2 ≤ d → n % (d : Int) ≠ 0) (by
    constructor
    · intro h d h1 h2
      have := h d.toNat (by omega) (by omega)
      rwa [show ((d.toNat : Nat) : Int) = d by omega] at this
    · intro h d h1 h2
      exact h d (by omega) (by omega))
def isPr (n : Int) : Bool := decide (2 ≤ n ∧ noDiv n)

theorem dd_le {d n : Int} (h1 : 2 ≤ d) (h2 : (d - 1) * (d - 1) ≤ n) (h3 : n ≤ 1000000) : d ≤ 1001 ∧ 0 ≤ d * d ∧ d * d ≤ 1002001 := by
  have hd : d ≤ 1001 := by
    by_cases h : d ≤ 1001
    · exact h
    · have := Int.mul_le_mul (show (1001 : Int) ≤ d - 1 by omega) (show (1001 : Int) ≤ d - 1 by omega) (by omega) (by omega)
      omega
  have := Int.mul_le_mul hd hd (by omega) (show (0 : Int) ≤ 1001 by omega)
  have h0 : 0 ≤ d * d := Int.mul_nonneg (by omega) (by omega)
  exact ⟨hd, h0, by omega⟩

/-- What has no divisor up to its root has none. -/
theorem noDiv_of_root (n d : Int) (hn : 2 ≤ n) (hd : 2 ≤ d) (h : ∀ e : Int, 2 ≤ e → e < d → n % e ≠ 0) (hr : n < d * d) : noDiv n := by
  intro e h1 h2 h3
  by_cases he : e < d
  · exact h e h1 he h3
  · -- the other divisor is below d
    have hdvd : e ∣ n := Int.dvd_of_emod_eq_zero h3
    obtain ⟨c, hc⟩ := hdvd
    have hc0 : 0 < c := by
      by_cases h : 0 < c
      · exact h
      · have h5 : e * c ≤ e * 0 := Int.mul_le_mul_of_nonneg_left (by omega) (by omega)
        omega
    have hc1 : c ≠ 1 := by
      intro h; subst h; omega
    have hcd : c < d := by
      by_cases h : c < d
      · exact h
      · have h5 := Int.mul_le_mul (show d ≤ e by omega) (show d ≤ c by omega) (by omega) (by omega)
        omega
    have := h c (by omega) hcd
    apply this
    rw [hc]
    exact Int.mul_emod_left e c

/-- The m lowest digits of x in base p. -/
def digS (p : Int) : Nat → Int → List Int
  | 0, _ => []
  | n + 1, x => x % p :: digS p n (x / p)
/-- The number with these digits. -/
def valS (p : Int) : List Int → Int
  | [] => 0
  | d :: l => valS p l * p + d

theorem length_digS (p : Int) : ∀ (n : Nat) (x : Int), (digS p n x).length = n
  | 0, _ => rfl
  | n + 1, x => by simp [digS, length_digS p n]

end Go.Cw
namespace Go.Cw
section
variable {p : Nat}
/-- The numbers of a list of digits. -/
def dv [NeZero p] (l : List Int) : Nat → Fin p := fun i => Fin.ofNat p (l.getD i 0).toNat
/-- The first m entries as a list of digits. -/
def dl (m : Nat) (v : Nat → Fin p) : List Int := (List.range m).map fun j => ((v j).val : Int)
theorem length_dl (m : Nat) (v : Nat → Fin p) : (dl m v).length = m := by simp [dl]
theorem getD_dl (m : Nat) (v : Nat → Fin p) (j : Nat) : (dl m v).getD j 0 = if j < m then ((v j).val : Int) else 0 := by
  unfold dl
  by_cases h : j < m
  · rw [if_pos h]; simp [List.getD, h]
  · rw [if_neg h]; simp [List.getD, h]
theorem dv_dl [NeZero p] (m : Nat) (v : Nat → Fin p) (h : ∀ j, m ≤ j → v j = 0) : dv (dl m v) = v := by
  funext j
  unfold dv; rw [getD_dl]
  by_cases hj : j < m
  · rw [if_pos hj]; apply Fin.ext; show ((v j).val : Int).toNat % p = (v j).val
    rw [Int.toNat_natCast, Nat.mod_eq_of_lt (v j).isLt]
  · rw [if_neg hj, h j (by omega)]; rfl
theorem dl_dv [NeZero p] (m : Nat) (l : List Int) (hl : l.length = m) (h : ∀ x ∈ l, 0 ≤ x ∧ x < p) : dl m (dv (p := p) l) = l := by
  apply List.ext_getElem (by rw [length_dl, hl])
  intro j h1 h2
  unfold dl dv
  simp only [List.getElem_map, List.getElem_range, Fin.ofNat, List.getD, List.getElem?_eq_getElem h2, Option.getD_some]
  have := h _ (List.getElem_mem h2)
  rw [Nat.mod_eq_of_lt (by omega)]; omega
end
/-- Digits and values. -/
theorem digS_mem (p : Int) (hp : 2 ≤ p) : ∀ (m : Nat) (x : Int), ∀ d ∈ digS p m x, 0 ≤ d ∧ d < p
  | 0, _, d, h => by simp [digS] at h
  | m + 1, x, d, h => by
    rcases List.mem_cons.1 h with h1 | h1
    · rw [h1]; exact ⟨Int.emod_nonneg _ (by omega), Int.emod_lt_of_pos _ (by omega)⟩
    · exact digS_mem p hp m _ d h1
theorem valS_digS (p : Int) (hp : 2 ≤ p) : ∀ (m : Nat) (x : Int), 0 ≤ x → x < p ^ m → valS p (digS p m x) = x
  | 0, x, h0, h1 => by simp [digS, valS] at *; omega
  | m + 1, x, h0, h1 => by
    have h2 : 0 ≤ x / p := Int.ediv_nonneg h0 (by omega)
    have h3 : x / p < p ^ m := by
      apply Int.ediv_lt_of_lt_mul (by omega); rw [Int.pow_succ] at h1; exact h1
    rw [digS, valS, valS_digS p hp m _ h2 h3, Int.mul_comm]; exact Int.mul_ediv_add_emod x p
theorem valS_bound (p : Int) (hp : 2 ≤ p) : ∀ l : List Int, (∀ d ∈ l, 0 ≤ d ∧ d < p) → 0 ≤ valS p l ∧ valS p l < p ^ l.length
  | [], _ => by simp [valS]
  | d :: l, h => by
    have h1 := valS_bound p hp l (fun x hx => h x (by simp [hx]))
    have h2 := h d (by simp)
    have h3 : 0 ≤ valS p l * p := Int.mul_nonneg h1.1 (by omega)
    have h4 : (valS p l + 1) * p ≤ p ^ l.length * p := Int.mul_le_mul_of_nonneg_right (by omega) (by omega)
    rw [Int.add_mul, Int.one_mul] at h4
    simp only [valS, List.length_cons, Int.pow_succ]; omega
theorem digS_valS (p : Int) (hp : 2 ≤ p) : ∀ l : List Int, (∀ d ∈ l, 0 ≤ d ∧ d < p) → digS p l.length (valS p l) = l
  | [], _ => rfl
  | d :: l, h => by
    have h2 := h d (by simp)
    have ih := digS_valS p hp l (fun x hx => h x (by simp [hx]))
    have h3 : (valS p l * p + d) % p = d := by rw [Int.add_comm, Int.add_mul_emod_self_right, Int.emod_eq_of_lt h2.1 h2.2]
    have h4 : (valS p l * p + d) / p = valS p l := by
      rw [Int.add_comm, Int.add_mul_ediv_right _ _ (by omega), Int.ediv_eq_zero_of_lt h2.1 h2.2]; omega
    simp only [valS, List.length_cons, digS]; rw [h3, h4, ih]
end Go.Cw
namespace Go.Cw
namespace Rg
variable {p : Nat} [NeZero p]
theorem dv_el (m : Nat) (l : List Int) (hl : l.length = m) (j : Nat) (hj : m ≤ j) : dv (p := p) l j = 0 := by
  unfold dv
  have : l.getD j 0 = 0 := by simp [List.getD, List.getElem?_eq_none (show l.length ≤ j by omega)]
  rw [this]; rfl
omit [NeZero p] in
theorem dl_mem (m : Nat) (v : Nat → Fin p) : ∀ d ∈ dl m v, 0 ≤ d ∧ d < (p : Int) := by
  intro d hd
  unfold dl at hd
  obtain ⟨j, _, rfl⟩ := List.mem_map.1 hd
  have := (v j).isLt
  omega
variable {R : Rg p} {h : R.IsField}
/-- The element with a code. -/
def Kt.of (x : Int) : Kt R h := ⟨dv (digS p R.m x), fun j hj => dv_el R.m _ (length_digS ..) j hj⟩
/-- The code of an element. -/
def Kt.code (a : Kt R h) : Int := valS p (dl R.m a.v)
theorem Kt.code_lt (a : Kt R h) : 0 ≤ a.code ∧ a.code < (p : Int) ^ R.m := by
  have hp := R.hp
  have := valS_bound p (by omega) (dl R.m a.v) (dl_mem _ _)
  rw [length_dl] at this; exact this
theorem Kt.code_of {x : Int} (h0 : 0 ≤ x) (h1 : x < (p : Int) ^ R.m) : (Kt.of x : Kt R h).code = x := by
  have hp := R.hp
  unfold Kt.code Kt.of
  dsimp only
  rw [dl_dv R.m _ (length_digS ..) (digS_mem p (by omega) _ _), valS_digS p (by omega) _ _ h0 h1]
theorem Kt.of_code (a : Kt R h) : Kt.of a.code = a := by
  have hp := R.hp
  apply Kt.ext
  unfold Kt.of Kt.code; dsimp only
  have := digS_valS p (by omega) (dl R.m a.v) (dl_mem _ _)
  rw [length_dl] at this
  rw [this]; exact dv_dl R.m _ a.el
theorem Kt.code_inj {a b : Kt R h} (e : a.code = b.code) : a = b := by rw [← Kt.of_code a, e, Kt.of_code]
end Rg
end Go.Cw
namespace Go.Cw
namespace Rg
variable {p : Nat} [NeZero p] (R : Rg p)
/-- The element of a number, and the number of an element. -/
def elt (x : Int) : R.V := dv (digS p R.m x)
def num (v : R.V) : Int := valS p (dl R.m v)
theorem elt_el (x : Int) : R.El (R.elt x) := fun j hj => dv_el R.m _ (length_digS ..) j hj
omit [NeZero p] in
theorem num_lt (v : R.V) : 0 ≤ R.num v ∧ R.num v < (p : Int) ^ R.m := by
  have hp := R.hp
  have := valS_bound p (by omega) (dl R.m v) (dl_mem _ _)
  rw [length_dl] at this; exact this
theorem num_elt {x : Int} (h0 : 0 ≤ x) (h1 : x < (p : Int) ^ R.m) : R.num (R.elt x) = x := by
  have hp := R.hp
  unfold num elt
  rw [dl_dv R.m _ (length_digS ..) (digS_mem p (by omega) _ _), valS_digS p (by omega) _ _ h0 h1]
theorem elt_num {v : R.V} (hv : R.El v) : R.elt (R.num v) = v := by
  have hp := R.hp
  unfold elt num
  have := digS_valS p (by omega) (dl R.m v) (dl_mem _ _)
  rw [length_dl] at this
  rw [this]; exact dv_dl R.m _ hv
/-- The product of two numbers. -/
def mulc (x y : Int) : Int := R.num (R.mul (R.elt y) (R.elt x))
def addc (x y : Int) : Int := R.num (R.vadd (R.elt x) (R.elt y))
def negc (x : Int) : Int := R.num (R.vneg (R.elt x))
theorem elt_mulc (x y : Int) : R.elt (R.mulc x y) = R.mul (R.elt x) (R.elt y) := by
  unfold mulc; rw [elt_num R (mul_el R _ (elt_el R _)), mul_comm R (elt_el R _) (elt_el R _)]
theorem elt_addc (x y : Int) : R.elt (R.addc x y) = R.vadd (R.elt x) (R.elt y) := by
  unfold addc; rw [elt_num R (vadd_el R (elt_el R _) (elt_el R _))]
/-- The codes of the powers of x: n of them. -/
def powc (x : Int) : Nat → Int
  | 0 => R.num R.e0
  | n + 1 => R.mulc (powc x n) x
def pl (x : Int) (n : Nat) : List Int := (List.range n).map (R.powc x)
end Rg
end Go.Cw
namespace Go.Cw
namespace Rg
variable {p : Nat} [NeZero p] (R : Rg p)
omit [NeZero p] in
theorem digS_zero (q : Int) : ∀ n, digS q n 0 = List.replicate n 0
  | 0 => rfl
  | n + 1 => by simp [digS, digS_zero q n, List.replicate_succ]
theorem elt_zero : R.elt 0 = R.vzero := by
  unfold elt; rw [digS_zero]
  funext j; unfold dv vzero
  by_cases h : j < R.m
  · simp [List.getD, h]
  · simp [List.getD, h]
theorem elt_one : R.elt 1 = R.e0 := by
  have hp := R.hp
  have hm := R.hm
  unfold elt
  obtain ⟨n, hn⟩ : ∃ n, R.m = n + 1 := ⟨R.m - 1, by omega⟩
  rw [hn, digS, show (1 : Int) % p = 1 from Int.emod_eq_of_lt (by omega) (by omega), show (1 : Int) / p = 0 from Int.ediv_eq_zero_of_lt (by omega) (by omega), digS_zero]
  funext j; unfold dv e0
  cases j with
  | zero => rfl
  | succ j =>
    rw [if_neg (by omega)]
    by_cases h : j < n
    · simp [List.getD, h]
    · simp [List.getD, h]
theorem num_e0 : R.num R.e0 = 1 := by
  have hp := R.hp
  have hm := R.hm
  rw [← elt_one]
  refine num_elt R (by omega) ?_
  have h1 := pow_mono_of (p : Int) (by omega) hm
  rw [Int.pow_one] at h1; omega
theorem num_zero : R.num R.vzero = 0 := by
  have hp := R.hp
  have hm := R.hm
  rw [← elt_zero]
  refine num_elt R (by omega) ?_
  have h1 := pow_mono_of (p : Int) (by omega) hm
  rw [Int.pow_one] at h1; omega
end Rg
end Go.Cw
namespace Go.Cw
namespace Rg
variable {p : Nat} [NeZero p] (R : Rg p)
/-- The number of elements. -/
def card : Int := (p : Int) ^ R.m
theorem card_pos : 2 ≤ R.card := by
  have hp := R.hp
  have hm := R.hm
  have h1 := pow_mono_of (p : Int) (by omega) hm
  rw [Int.pow_one] at h1; unfold card; omega
theorem mulc_lt (x y : Int) : 0 ≤ R.mulc x y ∧ R.mulc x y < R.card := num_lt R _
theorem addc_lt (x y : Int) : 0 ≤ R.addc x y ∧ R.addc x y < R.card := num_lt R _
theorem negc_lt (x : Int) : 0 ≤ R.negc x ∧ R.negc x < R.card := num_lt R _
theorem powc_lt (x : Int) (n : Nat) : 0 ≤ R.powc x n ∧ R.powc x n < R.card := by
  cases n with
  | zero => exact num_lt R _
  | succ n => exact mulc_lt R _ _
theorem mulc_one_left {x : Int} (hx : 0 ≤ x) (hx2 : x < R.card) : R.mulc 1 x = x := by
  unfold mulc
  rw [elt_one, mul_one R (elt_el R x)]
  exact num_elt R hx hx2
theorem powc_zero (x : Int) : R.powc x 0 = 1 := num_e0 R
theorem powc_one {x : Int} (hx : 0 ≤ x) (hx2 : x < R.card) : R.powc x 1 = x := by
  show R.mulc (R.powc x 0) x = x
  rw [powc_zero, mulc_one_left R hx hx2]
theorem pl_succ (x : Int) (n : Nat) : R.pl x (n + 1) = R.pl x n ++ [R.powc x n] := by
  unfold pl; rw [List.range_succ, List.map_append]; rfl
theorem length_pl (x : Int) (n : Nat) : (R.pl x n).length = n := by simp [pl]
theorem mem_pl {x : Int} {n : Nat} {y : Int} : y ∈ R.pl x n ↔ ∃ k, k < n ∧ R.powc x k = y := by simp [pl]
theorem ix_pl (x : Int) {n : Nat} {k : Int} (h0 : 0 ≤ k) (h1 : k < n) : ix 0 (R.pl x n) k = R.powc x k.toNat := by
  have : k.toNat < n := by omega
  simp [ix, pl, List.getD, this]
/-- Where the powers stop. -/
def Halt (x : Int) (k : Nat) : Prop := R.powc x k = 0 ∨ R.powc x k ∈ R.pl x k
structure StopAt (x : Int) (k : Nat) : Prop where
  pos : 1 ≤ k
  halt : R.Halt x k
  min : ∀ j, 1 ≤ j → j < k → ¬ R.Halt x j
theorem StopAt.unique {x : Int} {k l : Nat} (h : R.StopAt x k) (g : R.StopAt x l) : k = l := by
  rcases Nat.lt_trichotomy k l with h1 | h1 | h1
  · exact absurd h.halt (g.min k h.pos h1)
  · exact h1
  · exact absurd g.halt (h.min l g.pos h1)
noncomputable def stopK (x : Int) : Nat := Classical.epsilon (R.StopAt x)
theorem stopK_eq {x : Int} {k : Nat} (h : R.StopAt x k) : R.stopK x = k :=
  StopAt.unique R (Classical.epsilon_spec ⟨k, h⟩) h
/-- As long as they have not stopped, the powers are distinct and not 0. -/
theorem pl_good {x : Int} {k : Nat} (h : ∀ j, 1 ≤ j → j < k → ¬ R.Halt x j) : (R.pl x k).Nodup ∧ ∀ y ∈ R.pl x k, 1 ≤ y ∧ y < R.card := by
  induction k with
  | zero => simp [pl]
  | succ k ih =>
    obtain ⟨h1, h2⟩ := ih (fun j hj hk => h j hj (by omega))
    have h3 : R.powc x k ∉ R.pl x k ∧ R.powc x k ≠ 0 := by
      by_cases hk : k = 0
      · subst hk
        rw [powc_zero]; simp [pl]
      · have := h k (by omega) (by omega)
        unfold Halt at this
        simp only [not_or] at this
        exact ⟨this.2, this.1⟩
    rw [pl_succ]
    refine ⟨?_, fun y hy => ?_⟩
    · rw [List.nodup_append]
      refine ⟨h1, by simp, fun a ha b hb => ?_⟩
      rw [List.mem_singleton] at hb
      rintro rfl
      rw [hb] at ha
      exact h3.1 ha
    · rcases List.mem_append.1 hy with hy | hy
      · exact h2 y hy
      · rw [List.mem_singleton] at hy
        have := powc_lt R x k
        have := h3.2
        omega
theorem pl_short {x : Int} {k : Nat} (h : ∀ j, 1 ≤ j → j < k → ¬ R.Halt x j) : (k : Int) < R.card := by
  obtain ⟨h1, h2⟩ := pl_good R h
  have := nodup_lt_length (R.card - 1).toNat ((R.pl x k).map (· - 1)) (by
    rw [List.nodup_iff_pairwise_ne, List.pairwise_map]
    exact (List.nodup_iff_pairwise_ne.1 h1).imp (fun hab h => hab (by omega))) (fun y hy => by
      obtain ⟨z, hz, rfl⟩ := List.mem_map.1 hy
      have := h2 z hz
      omega)
  rw [List.length_map, length_pl] at this
  have := card_pos R
  omega
/-- x runs through all elements but 0. -/
def Good (x : Int) : Prop := (R.stopK x : Int) = R.card - 1 ∧ R.powc x (R.card - 1).toNat = 1
structure IsGen (x : Int) : Prop where
  lo : 1 ≤ x
  hi : x < R.card
  good : R.Good x
  min : ∀ y, 1 ≤ y → y < x → ¬ R.Good y
noncomputable def gen : Int := Classical.epsilon R.IsGen
theorem IsGen.unique {x y : Int} (h : R.IsGen x) (g : R.IsGen y) : x = y := by
  rcases Int.lt_trichotomy x y with h1 | h1 | h1
  · exact absurd h.good (g.min x h.lo h1)
  · exact h1
  · exact absurd g.good (h.min y g.lo h1)
theorem gen_eq {x : Int} (h : R.IsGen x) : R.gen = x := IsGen.unique R (Classical.epsilon_spec ⟨x, h⟩) h
def HasGen : Prop := ∃ x, 1 ≤ x ∧ x < R.card ∧ R.Good x
theorem gen_spec (h : R.HasGen) : R.IsGen R.gen := by
  apply Classical.epsilon_spec
  obtain ⟨x, h1, h2, h3⟩ := h
  have key : ∀ n : Nat, ∀ x : Int, x ≤ n → 1 ≤ x → x < R.card → R.Good x → ∃ y, R.IsGen y := by
    intro n
    induction n with
    | zero => intro x h1 h2; omega
    | succ n ih =>
      intro x h1 h2 h3 h4
      by_cases hy : ∃ y, 1 ≤ y ∧ y < x ∧ R.Good y
      · obtain ⟨y, y1, y2, y3⟩ := hy
        exact ih y (by omega) y1 (by omega) y3
      · exact ⟨x, h2, h3, h4, fun y y1 y2 y3 => hy ⟨y, y1, y2, y3⟩⟩
  exact key x.toNat x (by omega) h1 h2 h3
/-- The powers of a good element are just the numbers from 1 to below the order. -/
theorem good_all {x : Int} (h : R.Good x) (hk : ∀ j, 1 ≤ j → j < (R.card - 1).toNat → ¬ R.Halt x j) {y : Int} (h1 : 1 ≤ y) (h2 : y < R.card) : ∃ k, k < (R.card - 1).toNat ∧ R.powc x k = y := by
  obtain ⟨g1, g2⟩ := pl_good R hk
  by_cases hy : y ∈ R.pl x (R.card - 1).toNat
  · exact (mem_pl R).1 hy
  · have := nodup_lt_length (R.card - 1).toNat ((y :: R.pl x (R.card - 1).toNat).map (· - 1)) (by
      rw [List.nodup_iff_pairwise_ne, List.pairwise_map]
      exact (List.nodup_iff_pairwise_ne.1 (List.nodup_cons.2 ⟨hy, g1⟩)).imp (fun hab h => hab (by omega))) (fun z hz => by
        obtain ⟨u, hu, rfl⟩ := List.mem_map.1 hz
        rcases List.mem_cons.1 hu with hu | hu
        · omega
        · have := g2 u hu; omega)
    simp only [List.length_map, List.length_cons, length_pl] at this
    omega
end Rg
end Go.Cw
namespace Go.Cw
theorem fin_val_int {p : Nat} [NeZero p] {x : Int} (h0 : 0 ≤ x) (h1 : x < p) : (((Fin.ofNat p x.toNat).val : Nat) : Int) = x := by
  simp only [Fin.ofNat]
  rw [Nat.mod_eq_of_lt (by omega)]; omega
theorem fin_of_emod {p : Nat} [NeZero p] (x : Int) (h0 : 0 ≤ x) : Fin.ofNat p (x % p).toNat = Fin.ofNat p x.toNat := by
  apply Fin.ext
  simp only [Fin.ofNat]
  obtain ⟨n, rfl⟩ := Int.eq_ofNat_of_zero_le h0
  rw [show ((n : Int) % (p : Int)).toNat = n % p by omega, Nat.mod_mod]
  rfl
theorem fin_ofNat_add {p : Nat} [NeZero p] (a b : Nat) : Fin.ofNat p (a + b) = Fin.ofNat p a + Fin.ofNat p b := by
  apply Fin.ext
  simp [Fin.ofNat, Fin.val_add]
theorem fin_ofNat_mul {p : Nat} [NeZero p] (a b : Nat) : Fin.ofNat p (a * b) = Fin.ofNat p a * Fin.ofNat p b := by
  apply Fin.ext
  simp [Fin.ofNat, Fin.val_mul, Nat.mul_mod]
theorem fin_ofNat_self {p : Nat} [NeZero p] : Fin.ofNat p p = 0 := by
  apply Fin.ext
  simp [Fin.ofNat]
theorem fin_sub {p : Nat} [NeZero p] {t : Int} (h0 : 0 ≤ t) (h1 : t ≤ p) : Fin.ofNat p ((p : Int) - t).toNat = - Fin.ofNat p t.toNat := by
  have h : Fin.ofNat p (((p : Int) - t).toNat + t.toNat) = 0 := by
    rw [show ((p : Int) - t).toNat + t.toNat = p by omega]; exact fin_ofNat_self
  rw [fin_ofNat_add] at h
  generalize Fin.ofNat p ((p : Int) - t).toNat = u at h ⊢
  generalize Fin.ofNat p t.toNat = v at h ⊢
  grind
theorem toNat_add' {a b : Int} (h0 : 0 ≤ a) (h1 : 0 ≤ b) : (a + b).toNat = a.toNat + b.toNat := by omega
theorem toNat_mul' {a b : Int} (h0 : 0 ≤ a) (h1 : 0 ≤ b) : (a * b).toNat = a.toNat * b.toNat := by
  obtain ⟨n, rfl⟩ := Int.eq_ofNat_of_zero_le h0
  obtain ⟨m, rfl⟩ := Int.eq_ofNat_of_zero_le h1
  rw [← Int.natCast_mul, Int.toNat_natCast, Int.toNat_natCast, Int.toNat_natCast]
/-- (r + (p - c) l) mod p. -/
theorem fin_step {p : Nat} [NeZero p] {r c l : Int} (hr : 0 ≤ r) (hc : 0 ≤ c) (hc2 : c ≤ p) (hl : 0 ≤ l) :
    Fin.ofNat p ((r + ((p : Int) - c) * l) % p).toNat = Fin.ofNat p r.toNat + -(Fin.ofNat p c.toNat) * Fin.ofNat p l.toNat := by
  have h1 : 0 ≤ ((p : Int) - c) * l := Int.mul_nonneg (by omega) hl
  rw [fin_of_emod _ (by omega), toNat_add' hr h1, toNat_mul' (by omega) hl, fin_ofNat_add, fin_ofNat_mul, fin_sub hc hc2]
theorem fin_step2 {p : Nat} [NeZero p] {r a b : Int} (hr : 0 ≤ r) (ha : 0 ≤ a) (hb : 0 ≤ b) :
    Fin.ofNat p ((r + a * b) % p).toNat = Fin.ofNat p r.toNat + Fin.ofNat p a.toNat * Fin.ofNat p b.toNat := by
  have h1 : 0 ≤ a * b := Int.mul_nonneg ha hb
  rw [fin_of_emod _ (by omega), toNat_add' hr h1, toNat_mul' ha hb, fin_ofNat_add, fin_ofNat_mul]
theorem fin_step3 {p : Nat} [NeZero p] {r t l a b : Int} (hr : 0 ≤ r) (ht : 0 ≤ t) (ht2 : t ≤ p) (hl : 0 ≤ l) (ha : 0 ≤ a) (hb : 0 ≤ b) :
    Fin.ofNat p ((r + ((p : Int) - t) * l + b * a) % p).toNat = Fin.ofNat p r.toNat + -(Fin.ofNat p t.toNat) * Fin.ofNat p l.toNat + Fin.ofNat p b.toNat * Fin.ofNat p a.toNat := by
  have h1 : 0 ≤ ((p : Int) - t) * l := Int.mul_nonneg (by omega) hl
  have h2 : 0 ≤ b * a := Int.mul_nonneg hb ha
  rw [fin_of_emod _ (by omega), toNat_add' (by omega) h2, toNat_mul' hb ha, fin_ofNat_add, fin_ofNat_mul, toNat_add' hr h1, toNat_mul' (by omega) hl, fin_ofNat_add, fin_ofNat_mul, fin_sub ht ht2]
theorem dv_eq {p : Nat} [NeZero p] (l : List Int) (i : Int) (h0 : 0 ≤ i) : dv (p := p) l i.toNat = Fin.ofNat p (ix 0 l i).toNat := rfl
theorem dv_set {p : Nat} [NeZero p] (l : List Int) {k x : Int} (h0 : 0 ≤ k) (hk : k < l.length) : dv (p := p) (l.set k.toNat x) = Rg.upd (dv l) k.toNat (Fin.ofNat p x.toNat) := by
  funext j
  unfold dv Rg.upd
  have hk' : k.toNat < l.length := by omega
  by_cases h : j = k.toNat
  · subst h; simp [List.getD, hk']
  · rw [if_neg h]; simp [List.getD, List.getElem?_set_ne (Ne.symm h)]
theorem dv_range {p : Nat} [NeZero p] {l : List Int} (i : Int) (h0 : 0 ≤ i) (h1 : i < l.length) (h : ∀ x ∈ l, 0 ≤ x ∧ x < p) : ((dv (p := p) l i.toNat).val : Int) = ix 0 l i := by
  have := h _ (ix_mem 0 l h0 h1)
  exact fin_val_int this.1 this.2
theorem mem_set_range {l : List Int} {k : Nat} {x p : Int} (h : ∀ y ∈ l, 0 ≤ y ∧ y < p) (hx : 0 ≤ x ∧ x < p) : ∀ y ∈ l.set k x, 0 ≤ y ∧ y < p := by
  intro y hy
  rcases List.mem_or_eq_of_mem_set hy with h1 | h1
  · exact h y h1
  · rw [h1]; exact hx

def Fld.p (f : Fld) : Nat := max 2 f.P.toNat
instance (f : Fld) : NeZero f.p := ⟨by unfold Fld.p; omega⟩
def Fld.R (f : Fld) : Rg f.p := ⟨max 1 f.M.toNat, by unfold Fld.p; omega, by omega, if f.M = 1 then fun _ => 0 else dv f.mod⟩
def Fld.q (f : Fld) : Int := ordS f.P f.M
def modOk (f : Fld) : Prop := if f.M = 1 then (f.mod.length : Int) = 0 else (f.mod.length : Int) = f.M ∧ ∀ c ∈ f.mod, 0 ≤ c ∧ c < f.P
def Shape (f : Fld) : Prop := f.q ≠ 0 ∧ isPr f.P = true ∧ modOk f
namespace Shape
variable {f : Fld}
theorem bd (h : Shape f) : 2 ≤ f.P ∧ f.P ≤ 256 ∧ 1 ≤ f.M ∧ f.M ≤ 8 ∧ f.q = f.P ^ f.M.toNat ∧ 2 ≤ f.q ∧ f.q ≤ 256 := ordS_pos h.1
theorem pI (h : Shape f) : (f.p : Int) = f.P := by have := bd h; unfold Fld.p; omega
theorem mI (h : Shape f) : (f.R.m : Int) = f.M := by have := bd h; show ((max 1 f.M.toNat : Nat) : Int) = f.M; omega
theorem card (h : Shape f) : f.R.card = f.q := by
  have h1 := bd h
  unfold Rg.card
  rw [pI h, h1.2.2.2.2.1]
  congr 1
  have := mI h; omega
theorem mod_le (h : Shape f) : f.mod.length ≤ 8 := by
  have h1 := bd h
  have h2 := h.2.2
  unfold modOk at h2
  split at h2 <;> omega
theorem prime (h : Shape f) : Rg.PrimeF f.p := by
  have h1 := bd h
  have h2 := h.2.1
  unfold isPr at h2
  have h3 := of_decide_eq_true h2
  refine Rg.primeF_of (by unfold Fld.p; omega) fun d hd hd2 hm => ?_
  have h4 := pI h
  refine h3.2 (d : Int) (by omega) (by omega) ?_
  rw [← h4]; omega
end Shape
/-- A description of a field. -/
def FOk (f : Fld) : Prop := Shape f ∧ f.R.HasGen
namespace Rg
variable {p : Nat} [NeZero p] (R : Rg p)
theorem elt_powc_add (x : Int) (m n : Nat) : R.mul (R.elt (R.powc x m)) (R.elt (R.powc x n)) = R.elt (R.powc x (m + n)) := by
  induction n with
  | zero => show R.mul _ (R.elt (R.powc x 0)) = _; rw [powc_zero, elt_one, mul_one R (elt_el R _)]; rfl
  | succ n ih =>
    show R.mul _ (R.elt (R.mulc (R.powc x n) x)) = R.elt (R.mulc (R.powc x (m + n)) x)
    rw [elt_mulc, elt_mulc, ← ih, mul_assoc R (elt_el R _) (elt_el R _) (elt_el R _)]
theorem mulc_powc (x : Int) (m n : Nat) : R.mulc (R.powc x m) (R.powc x n) = R.powc x (m + n) := by
  have h1 := powc_lt R x (m + n)
  unfold mulc
  rw [mul_comm R (elt_el R _) (elt_el R _), elt_powc_add, num_elt R h1.1 h1.2]
theorem stop_exists (x : Int) : ∃ k, R.StopAt x k := by
  by_cases h4 : ∃ k, R.StopAt x k
  · exact h4
  · -- then it never stops
    have h5 : ∀ k : Nat, ∀ j, 1 ≤ j → j < k → ¬ R.Halt x j := by
      intro k
      induction k with
      | zero => intro j _ h; omega
      | succ k ih =>
        intro j h1 h2 h6
        by_cases hj : j < k
        · exact ih j h1 hj h6
        · have : j = k := by omega
          subst this
          exact h4 ⟨j, h1, h6, ih⟩
    have := pl_short R (h5 (R.card.toNat + 1))
    have := card_pos R
    omega
theorem stopK_spec (x : Int) : R.StopAt x (R.stopK x) := Classical.epsilon_spec (stop_exists R x)
theorem gen_min (h : R.HasGen) : ∀ j, 1 ≤ j → j < (R.card - 1).toNat → ¬ R.Halt R.gen j := by
  have hg := gen_spec R h
  intro j h1 h2
  have h5 := hg.good.1
  exact (stopK_spec R R.gen).min j h1 (by omega)
theorem seen_zero (q : Int) (x : Int) : mapR (fun c => decide (c ∈ R.pl x 1)) q = (List.replicate q.toNat false).set 1 true := by
  rw [← mapR_const, show (1 : Nat) = (1 : Int).toNat from rfl, mapR_set _ (by omega)]
  apply mapR_congr
  intro i _ _
  have h1 : i ∈ R.pl x (1 : Int).toNat ↔ i = 1 := by
    rw [mem_pl]
    constructor
    · rintro ⟨k, hk, rfl⟩
      have : k = 0 := by omega
      subst this; exact powc_zero R x
    · rintro rfl; exact ⟨0, by decide, powc_zero R x⟩
  by_cases hi : i = 1
  · rw [if_pos hi]; exact decide_eq_true (h1.2 hi)
  · rw [if_neg hi]; exact decide_eq_false (fun h => hi (h1.1 h))
theorem seen_succ (q : Int) (x : Int) (k : Nat) : (mapR (fun c => decide (c ∈ R.pl x k)) q).set (R.powc x k).toNat true = mapR (fun c => decide (c ∈ R.pl x (k + 1))) q := by
  rw [mapR_set _ (powc_lt R x k).1]
  apply mapR_congr
  intro i _ _
  rw [pl_succ]
  by_cases hi : i = R.powc x k
  · rw [if_pos hi]; exact (decide_eq_true (by rw [hi]; simp)).symm
  · rw [if_neg hi]; exact decide_eq_decide.2 ⟨fun h => List.mem_append_left _ h, fun h => (List.mem_append.1 h).elim id (fun h => absurd (List.mem_singleton.1 h) hi)⟩
/-- A generator makes a field. -/
theorem field_of_gen (h : R.HasGen) : R.IsField := by
  have hg := gen_spec R h
  have hcp := card_pos R
  intro a ha h0
  have hn := num_lt R a
  have h1 : R.num a ≠ 0 := by
    intro he
    apply h0
    rw [← elt_num R ha, he, elt_zero]
  obtain ⟨k, hk, hk2⟩ := good_all R hg.good (gen_min R h) (y := R.num a) (by omega) hn.2
  refine ⟨R.elt (R.powc R.gen ((R.card - 1).toNat - k)), elt_el R _, ?_⟩
  rw [← elt_num R ha, ← hk2, elt_powc_add, show (R.card - 1).toNat - k + k = (R.card - 1).toNat by omega, hg.good.2, elt_one]
theorem pow_v {h : R.IsField} (a : Kt R h) (n : Nat) : (Fi.pow a n).v = R.elt (R.powc a.code n) := by
  induction n with
  | zero => show R.e0 = R.elt (R.num R.e0); rw [elt_num R (e0_el R)]
  | succ n ih =>
    show R.mul (Fi.pow a n).v a.v = R.elt (R.mulc (R.powc a.code n) a.code)
    rw [ih, elt_mulc]
    congr 1
    exact (elt_num R a.el).symm
/-- A field has a generator. -/
theorem gen_of_field (h : R.IsField) : R.HasGen := by
  have hcp := card_pos R
  let all : List (Kt R h) := mapR (fun x => Kt.of (x + 1)) (R.card - 1)
  have hmem : ∀ a : Kt R h, a ∈ all ↔ a ≠ 0 := by
    intro a
    constructor
    · intro ha hz
      obtain ⟨i, hi, rfl⟩ := List.mem_map.1 ha
      rw [List.mem_range] at hi
      have h1 := congrArg Kt.code hz
      rw [Kt.code_of (by omega) (by unfold card at *; omega)] at h1
      have h2 : Kt.code (0 : Kt R h) = 0 := num_zero R
      omega
    · intro hz
      have h1 := Kt.code_lt a
      have h2 : a.code ≠ 0 := by
        intro he
        apply hz
        rw [← Kt.of_code a, he]
        exact Kt.ext (elt_zero R)
      refine List.mem_map.2 ⟨(a.code - 1).toNat, ?_, ?_⟩
      · rw [List.mem_range]; unfold card at *; omega
      · show Kt.of _ = a
        rw [show (((a.code - 1).toNat : Nat) : Int) + 1 = a.code by omega, Kt.of_code]
  have hnd : all.Nodup := by
    show ((List.range (R.card - 1).toNat).map (fun (i : Nat) => (Kt.of ((i : Int) + 1) : Kt R h))).Nodup
    rw [List.nodup_iff_pairwise_ne, List.pairwise_map]
    refine List.Pairwise.imp_of_mem ?_ (List.pairwise_lt_range (n := (R.card - 1).toNat))
    intro i j hi hj hij he
    rw [List.mem_range] at hi hj
    have h1 := congrArg Kt.code he
    rw [Kt.code_of (by omega) (by unfold card at *; omega), Kt.code_of (by omega) (by unfold card at *; omega)] at h1
    omega
  have hlen : all.length = (R.card - 1).toNat := length_mapR _ _
  obtain ⟨a, ha⟩ := Fi.cyclic all hnd (fun x hx => (hmem x).1 hx) (fun x hx => (hmem x).2 hx)
  rw [hlen] at ha
  have hne := Fi.ord_ne ha
  have hpw : ∀ n, R.powc a.code n = (Fi.pow a n).code := by
    intro n
    have h1 := powc_lt R a.code n
    show _ = R.num (Fi.pow a n).v
    rw [pow_v, num_elt R h1.1 h1.2]
  have h1 : R.powc a.code (R.card - 1).toNat = 1 := by
    rw [hpw, ha.one]; exact num_e0 R
  have hcode0 : Kt.code (0 : Kt R h) = 0 := num_zero R
  have hinj : ∀ i j, i < j → j < (R.card - 1).toNat → Fi.pow a i ≠ Fi.pow a j := by
    intro i j hij hj he
    exact ha.least (j - i) (by omega) (by omega) (Fi.pow_sub hne (by omega) he)
  have hst : R.StopAt a.code (R.card - 1).toNat := by
    refine ⟨by omega, .inr ?_, fun j hj1 hj2 hh => ?_⟩
    · rw [h1]
      exact (mem_pl R).2 ⟨0, by omega, powc_zero R _⟩
    · rcases hh with hh | hh
      · rw [hpw] at hh
        exact Fi.pow_ne hne j (Kt.code_inj (by rw [hh, hcode0]))
      · obtain ⟨k, hk, hk2⟩ := (mem_pl R).1 hh
        rw [hpw, hpw] at hk2
        exact hinj k j hk hj2 (Kt.code_inj hk2)
  have h2 := Kt.code_lt a
  refine ⟨a.code, ?_, h2.2, ?_, h1⟩
  · have : a.code ≠ 0 := fun he => hne (Kt.code_inj (by rw [he, hcode0]))
    omega
  · rw [stopK_eq R hst]; omega
end Rg
/-- The powers of the generator, and their exponents. -/
noncomputable def Fld.exps (f : Fld) : List Int := f.R.pl f.R.gen (f.q - 1).toNat
noncomputable def Fld.logsTo (f : Fld) (n : Int) : List Int := mapR (fun c => if c ∈ f.R.pl f.R.gen n.toNat then ixOf f.exps c else 0) f.q
noncomputable def Fld.logs (f : Fld) : List Int := f.logsTo (f.q - 1)
theorem logsTo_zero (f : Fld) : f.logsTo 0 = List.replicate f.q.toNat 0 := by
  unfold Fld.logsTo
  rw [← mapR_const]
  apply mapR_congr
  intro i _ _
  rw [if_neg (by simp [Rg.pl])]
theorem FOk.exp_good {f : Fld} (h : FOk f) : f.exps.Nodup ∧ (∀ y ∈ f.exps, 1 ≤ y ∧ y < f.q) ∧ (f.exps.length : Int) = f.q - 1 := by
  have hb := h.1.bd
  have hc := h.1.card
  have h1 := Rg.pl_good f.R (Rg.gen_min f.R h.2)
  rw [hc] at h1
  refine ⟨h1.1, h1.2, ?_⟩
  unfold Fld.exps; rw [Rg.length_pl]; omega
theorem FOk.exp_ix {f : Fld} (h : FOk f) {n : Int} (h0 : 0 ≤ n) (h1 : n < f.q - 1) : ix 0 f.exps n = f.R.powc f.R.gen n.toNat ∧ 1 ≤ ix 0 f.exps n ∧ ix 0 f.exps n < f.q := by
  have h2 := FOk.exp_good h
  have h3 := h2.2.1 _ (ix_mem 0 f.exps h0 (by omega))
  exact ⟨Rg.ix_pl f.R _ h0 (by omega), h3.1, h3.2⟩
theorem FOk.ixOf_exp {f : Fld} (h : FOk f) {n : Int} (h0 : 0 ≤ n) (h1 : n < f.q - 1) : ixOf f.exps (ix 0 f.exps n) = n := by
  have h2 := FOk.exp_good h
  refine ixOf_at f.exps _ h0 (by omega) rfl ?_
  have h3 := (nodup_take_succ f.exps h0 (by omega)).1 (h2.1.sublist (List.take_sublist _ _))
  exact h3.2
theorem FOk.logsTo_succ {f : Fld} (h : FOk f) {n : Int} (h0 : 0 ≤ n) (h1 : n < f.q - 1) : (f.logsTo n).set (ix 0 f.exps n).toNat n = f.logsTo (n + 1) := by
  have h2 := FOk.exp_ix h h0 h1
  have h3 := FOk.ixOf_exp h h0 h1
  unfold Fld.logsTo
  rw [mapR_set _ (by omega)]
  apply mapR_congr
  intro i _ _
  rw [show (n + 1).toNat = n.toNat + 1 by omega, Rg.pl_succ]
  by_cases hi : i = ix 0 f.exps n
  · rw [if_pos hi, if_pos (by rw [hi, h2.1]; simp), hi, h3]
  · rw [if_neg hi]
    by_cases hm : i ∈ f.R.pl f.R.gen n.toNat
    · rw [if_pos hm, if_pos (List.mem_append_left _ hm)]
    · rw [if_neg hm, if_neg (fun hh => (List.mem_append.1 hh).elim hm (fun hh => hi (by rw [List.mem_singleton] at hh; rw [hh, h2.1])))]
theorem length_logsTo (f : Fld) (n : Int) : (f.logsTo n).length = f.q.toNat := length_mapR _ _
/-- The logarithm of an element that is not 0. -/
theorem FOk.log {f : Fld} (h : FOk f) {c : Int} (h0 : 1 ≤ c) (h1 : c < f.q) : 0 ≤ ix 0 f.logs c ∧ ix 0 f.logs c < f.q - 1 ∧ f.R.powc f.R.gen (ix 0 f.logs c).toNat = c := by
  have hb := h.1.bd
  have hc := h.1.card
  obtain ⟨k, hk, hk2⟩ := Rg.good_all f.R (Rg.gen_spec f.R h.2).good (Rg.gen_min f.R h.2) (y := c) h0 (by omega)
  have h2 := FOk.exp_ix h (n := (k : Int)) (by omega) (by omega)
  have h3 := FOk.ixOf_exp h (n := (k : Int)) (by omega) (by omega)
  have h4 : ix 0 f.logs c = k := by
    show ix 0 (mapR (fun c => if c ∈ f.R.pl f.R.gen (f.q - 1).toNat then ixOf f.exps c else 0) f.q) c = k
    rw [ix_mapR 0 _ (by omega) h1, if_pos ((Rg.mem_pl f.R).2 ⟨k, by omega, hk2⟩)]
    rw [h2.1, show ((k : Int)).toNat = k by omega, hk2] at h3
    exact h3
  rw [h4]
  refine ⟨by omega, by omega, ?_⟩
  rw [show ((k : Int)).toNat = k by omega, hk2]
theorem FOk.field {f : Fld} (h : FOk f) : f.R.IsField := Rg.field_of_gen _ h.2
theorem fok_iff_irr {f : Fld} (h : Shape f) : FOk f ↔ f.R.Irr :=
  ⟨fun hf => Rg.irr_of_field _ hf.field, fun hi => ⟨h, Rg.gen_of_field _ (fun a ha h0 => Rg.inverse _ h.prime hi ha h0)⟩⟩
end Go.Cw
namespace Go.Cw
instance (f : Fld) : Decidable (modOk f) := by unfold modOk; infer_instance
instance (f : Fld) : Decidable (Shape f) := by unfold Shape; infer_instance
noncomputable instance (f : Fld) : Decidable (FOk f) := Classical.propDecidable _
theorem append_set_rep {α : Type} {ys : List α} {i m : Int} (d v : α) (hl : ys.length = i.toNat) (h0 : 0 ≤ i) (h1 : i < m) :
    (ys ++ List.replicate (m - i).toNat d).set i.toNat v = ys ++ [v] ++ List.replicate (m - (i + 1)).toNat d := by
  rw [List.set_append_right _ _ (by omega), hl, Nat.sub_self, show (m - i).toNat = (m - (i + 1)).toNat + 1 by omega, List.replicate_succ, List.set_cons_zero, List.append_assoc]; rfl
theorem digS_step (p y : Int) {i m : Int} (h1 : i < m) : digS p (m - i).toNat y = y % p :: digS p (m - (i + 1)).toNat (y / p) := by
  rw [show (m - i).toNat = (m - (i + 1)).toNat + 1 by omega]; rfl
theorem valS_drop (p : Int) (d : List Int) {i : Int} (h0 : 0 ≤ i) (h1 : i < d.length) : valS p (d.drop i.toNat) = valS p (d.drop (i + 1).toNat) * p + ix 0 d i := by
  have hi : i.toNat < d.length := by omega
  rw [List.drop_eq_getElem_cons hi, show (i + 1).toNat = i.toNat + 1 by omega]
  simp [valS, ix, List.getD, hi]
theorem valS_drop_bd {p : Int} {d : List Int} (hp : 2 ≤ p) (hd : ∀ c ∈ d, 0 ≤ c ∧ c < p) (hq : p ^ d.length ≤ 256) (k : Nat) : 0 ≤ valS p (d.drop k) ∧ valS p (d.drop k) ≤ 256 := by
  have h1 := valS_bound p hp (d.drop k) (fun c hc => hd c (List.mem_of_mem_drop hc))
  have h2 := pow_mono_of p hp (show (d.drop k).length ≤ d.length by simp)
  omega
theorem base_bd {p : Int} {d : List Int} (hp : 2 ≤ p) (hq : p ^ d.length ≤ 256) (h : 0 < d.length) : p ≤ 256 := by
  have := pow_mono_of p hp (show 1 ≤ d.length by omega)
  rw [Int.pow_one] at this; omega
section
variable {p : Nat} [NeZero p]
theorem ix_dl (m : Nat) (v : Nat → Fin p) {k : Int} (h0 : 0 ≤ k) (h1 : k < m) : ix 0 (dl m v) k = ((v k.toNat).val : Int) := by
  have h2 := getD_dl m v k.toNat
  rw [if_pos (by omega)] at h2
  exact h2
theorem dl_congr {m : Nat} {v u : Nat → Fin p} (h : ∀ k, k < m → v k = u k) : dl m v = dl m u := by
  unfold dl
  apply List.map_congr_left
  intro k hk
  rw [h k (List.mem_range.1 hk)]
theorem dl_zero (m : Nat) : dl m (fun _ => (0 : Fin p)) = List.replicate m 0 := by
  apply List.ext_getElem (by simp [dl])
  intro j h1 h2
  simp [dl]
theorem dl_set (m : Nat) (v : Nat → Fin p) {k x : Int} (h0 : 0 ≤ k) (hk : k < m) (hx : 0 ≤ x) (hx2 : x < p) : (dl m v).set k.toNat x = dl m (Rg.upd v k.toNat (Fin.ofNat p x.toNat)) := by
  apply List.ext_getElem (by simp [dl])
  intro j h1 h2
  simp only [dl, List.length_set, List.length_map, List.length_range] at h1
  rw [List.getElem_set]
  simp only [dl, List.getElem_map, List.getElem_range, Rg.upd]
  by_cases hj : k.toNat = j
  · rw [if_pos hj, if_pos hj.symm]
    exact (fin_val_int hx hx2).symm
  · rw [if_neg hj, if_neg (fun h => hj h.symm)]
theorem dl_shift (m : Nat) (hm : 1 ≤ m) (v : Nat → Fin p) : (((dl m v).take 1 ++ (dl m v).take (m - 1)) ++ (dl m v).drop m).set 0 0 = dl m (fun k => if k = 0 then 0 else v (k - 1)) := by
  have hd : (dl m v).drop m = [] := List.drop_of_length_le (by rw [length_dl]; exact Nat.le_refl _)
  rw [hd, List.append_nil]
  apply List.ext_getElem
  · simp [dl]; omega
  · intro j h1 h2
    rw [length_dl] at h2
    rw [List.getElem_set]
    by_cases hj : 0 = j
    · rw [if_pos hj]; subst hj; simp [dl]
    · rw [if_neg hj]
      have e : (List.take 1 (dl m v)).length = 1 := by simp [dl]; omega
      rw [List.getElem_append_right (by omega)]
      simp only [dl] at e
      simp only [dl, List.getElem_take, List.getElem_map, List.getElem_range, e]
      rw [if_neg (by omega)]
end
namespace Rg
variable {p : Nat} [NeZero p] (R : Rg p)
/-- A round of Horner's rule, up to place j. -/
def hstep (H a : R.V) (c : Fin p) (j : Nat) : R.V := fun k => if k < j then R.vadd (R.T H) (R.smul c a) k else if k = 0 then 0 else H (k - 1)
theorem hstep_zero (H a : R.V) (c : Fin p) : R.hstep H a c 0 = fun k => if k = 0 then 0 else H (k - 1) := by
  funext k; unfold hstep; rw [if_neg (by omega)]
theorem hstep_succ (H a : R.V) (c s : Fin p) (j : Nat) (hs : s = R.vadd (R.T H) (R.smul c a) j) : upd (R.hstep H a c j) j s = R.hstep H a c (j + 1) := by
  funext k
  unfold upd hstep
  by_cases h : k = j
  · rw [if_pos h, if_pos (by omega), h, hs]
  · rw [if_neg h]
    by_cases h2 : k < j
    · rw [if_pos h2, if_pos (by omega)]
    · simp only [if_neg h2, show ¬ k < j + 1 by omega, if_false]
theorem hstep_all (H a : R.V) (c : Fin p) : dl R.m (R.hstep H a c R.m) = dl R.m (R.vadd (R.T H) (R.smul c a)) :=
  dl_congr fun k hk => by unfold hstep; rw [if_pos hk]
theorem hstep_val (H a : R.V) (c : Fin p) {j : Nat} (hj : j < R.m) (hH : R.El H) :
    (if j = 0 then 0 else H (j - 1)) + -(H (R.m - 1)) * R.md j + c * a j = R.vadd (R.T H) (R.smul c a) j := by
  unfold vadd smul T
  rw [if_pos hj]
  grind
theorem hor_el (b a : R.V) (ha : R.El a) (n : Nat) : R.El (R.hor b a n) := by
  cases n with
  | zero => exact vzero_el R
  | succ n => exact vadd_el R (T_el R _) (smul_el R _ ha)
end Rg
def lowF (f : Fld) (j : Int) : Int := if 1 < f.M then ix 0 f.mod j else 0
namespace Shape
variable {f : Fld}
theorem mN (h : Shape f) : f.R.m = f.M.toNat := by have := mI h; omega
theorem mod_len (h : Shape f) (h1 : 1 < f.M) : (f.mod.length : Int) = f.M ∧ ∀ c ∈ f.mod, 0 ≤ c ∧ c < f.P := by
  have h2 := h.2.2
  unfold modOk at h2
  rw [if_neg (by omega)] at h2
  exact h2
theorem low (h : Shape f) {j : Int} (h0 : 0 ≤ j) (h1 : j < f.M) : (0 ≤ lowF f j ∧ lowF f j < f.P) ∧ Fin.ofNat f.p (lowF f j).toNat = f.R.md j.toNat := by
  have hb := bd h
  unfold lowF
  by_cases hm : 1 < f.M
  · rw [if_pos hm]
    have h2 := mod_len h hm
    refine ⟨h2.2 _ (ix_mem 0 f.mod h0 (by omega)), ?_⟩
    show _ = (if f.M = 1 then fun _ => 0 else dv f.mod) j.toNat
    rw [if_neg (by omega)]; rfl
  · rw [if_neg hm]
    refine ⟨by omega, ?_⟩
    show _ = (if f.M = 1 then fun _ => 0 else dv f.mod) j.toNat
    rw [if_pos (by omega)]; rfl
theorem elt (h : Shape f) (x : Int) : f.R.elt x = dv (digS f.P f.M.toNat x) := by
  unfold Rg.elt; rw [pI h, mN h]
theorem dig_ix (h : Shape f) (x : Int) {i : Int} (h0 : 0 ≤ i) (h1 : i < f.M) : 0 ≤ ix 0 (digS f.P f.M.toNat x) i ∧ ix 0 (digS f.P f.M.toNat x) i < f.P := by
  have hb := bd h
  exact digS_mem f.P hb.1 _ _ _ (ix_mem 0 _ h0 (by rw [length_digS]; omega))
/-- One entry of a round. -/
theorem step (h : Shape f) (x y : Int) (H : f.R.V) (hH : f.R.El H) {i j : Int} (i0 : 0 ≤ i) (i1 : i < f.M) (j0 : 0 ≤ j) (j1 : j < f.M) :
    (0 ≤ ((ix 0 (dl f.R.m (f.R.hstep H (f.R.elt x) (f.R.elt y i.toNat) j.toNat)) j + (f.P - ix 0 (dl f.R.m H) (f.M - 1)) * lowF f j) + ix 0 (digS f.P f.M.toNat y) i * ix 0 (digS f.P f.M.toNat x) j) % f.P) ∧
    (dl f.R.m (f.R.hstep H (f.R.elt x) (f.R.elt y i.toNat) j.toNat)).set j.toNat (((ix 0 (dl f.R.m (f.R.hstep H (f.R.elt x) (f.R.elt y i.toNat) j.toNat)) j + (f.P - ix 0 (dl f.R.m H) (f.M - 1)) * lowF f j) + ix 0 (digS f.P f.M.toNat y) i * ix 0 (digS f.P f.M.toNat x) j) % f.P) =
      dl f.R.m (f.R.hstep H (f.R.elt x) (f.R.elt y i.toNat) (j + 1).toNat) := by
  have hb := bd h
  have hp := pI h
  have hm := mN h
  have hlow := low h j0 j1
  have hdx := dig_ix h x j0 j1
  have hdy := dig_ix h y i0 i1
  rw [ix_dl _ _ j0 (by omega), ix_dl _ H (by omega) (by omega)]
  have hs : (f.R.hstep H (f.R.elt x) (f.R.elt y i.toNat) j.toNat) j.toNat = if j.toNat = 0 then 0 else H (j.toNat - 1) := by
    unfold Rg.hstep; rw [if_neg (by omega)]
  rw [hs]
  generalize hr : (if j.toNat = 0 then (0 : Fin f.p) else H (j.toNat - 1)) = r
  have hrl := r.isLt
  have htl := (H (f.M - 1).toNat).isLt
  have e1 := fin_step3 (p := f.p) (r := (r.val : Int)) (t := ((H (f.M - 1).toNat).val : Int)) (l := lowF f j) (a := ix 0 (digS f.P f.M.toNat x) j) (b := ix 0 (digS f.P f.M.toNat y) i)
    (by omega) (by omega) (by omega) hlow.1.1 hdx.1 hdy.1
  rw [hp] at e1
  have hpos : 0 < f.P := by omega
  have hmod := Int.emod_nonneg (((r.val : Int) + (f.P - ((H (f.M - 1).toNat).val : Int)) * lowF f j) + ix 0 (digS f.P f.M.toNat y) i * ix 0 (digS f.P f.M.toNat x) j) (show f.P ≠ 0 by omega)
  have hmod2 := Int.emod_lt_of_pos (((r.val : Int) + (f.P - ((H (f.M - 1).toNat).val : Int)) * lowF f j) + ix 0 (digS f.P f.M.toNat y) i * ix 0 (digS f.P f.M.toNat x) j) hpos
  refine ⟨hmod, ?_⟩
  rw [dl_set _ _ j0 (by omega) hmod (by omega), e1, show (j + 1).toNat = j.toNat + 1 by omega]
  rw [Rg.hstep_succ f.R H _ _ _ _ ?_]
  have h5 := Rg.hstep_val f.R H (f.R.elt x) (f.R.elt y i.toNat) (j := j.toNat) (by omega) hH
  rw [← h5, hr, hlow.2]
  have e2 : ∀ u : Fin f.p, Fin.ofNat f.p ((u.val : Int)).toNat = u := by
    intro u; apply Fin.ext; simp only [Fin.ofNat, Int.toNat_natCast]; exact Nat.mod_eq_of_lt u.isLt
  rw [e2, e2, show (f.M - 1).toNat = f.R.m - 1 by omega]
  rw [elt h x, elt h y]; rfl
theorem step_bd (h : Shape f) (H V : f.R.V) {i j : Int} (x y : Int) (i0 : 0 ≤ i) (i1 : i < f.M) (j0 : 0 ≤ j) (j1 : j < f.M) :
    (0 ≤ ix 0 (dl f.R.m V) j ∧ ix 0 (dl f.R.m V) j ≤ 256) ∧ (0 ≤ f.P - ix 0 (dl f.R.m H) (f.M - 1) ∧ f.P - ix 0 (dl f.R.m H) (f.M - 1) ≤ 256) ∧ (0 ≤ (f.P - ix 0 (dl f.R.m H) (f.M - 1)) * lowF f j ∧ (f.P - ix 0 (dl f.R.m H) (f.M - 1)) * lowF f j ≤ 65536) ∧
    (0 ≤ ix 0 (digS f.P f.M.toNat y) i * ix 0 (digS f.P f.M.toNat x) j ∧ ix 0 (digS f.P f.M.toNat y) i * ix 0 (digS f.P f.M.toNat x) j ≤ 65536) := by
  have hb := bd h
  have hp := pI h
  have hm := mN h
  have hlow := low h j0 j1
  have hdx := dig_ix h x j0 j1
  have hdy := dig_ix h y i0 i1
  rw [ix_dl _ _ j0 (by omega), ix_dl _ H (by omega) (by omega)]
  have h1 := (V j.toNat).isLt
  have h2 := (H (f.M - 1).toNat).isLt
  exact ⟨by omega, by omega, mul_small (by omega) (by omega) hlow.1.1 (by omega), mul_small hdy.1 (by omega) hdx.1 (by omega)⟩
end Shape
end Go.Cw
namespace Go.Cw
namespace Rg
variable {p : Nat} [NeZero p] (R : Rg p)
/-- Two moduli that agree as far as they count. -/
theorem sub_T_congr {d : Nat} (hd : 1 ≤ d) {g k : Nat → Fin p} (h : ∀ j, j < d → g j = k j) (a : R.V) : (R.sub d hd g).T a = (R.sub d hd k).T a := by
  funext j
  show (if j < d then (if j = 0 then 0 else a (j - 1)) - a (d - 1) * g j else 0) = (if j < d then (if j = 0 then 0 else a (j - 1)) - a (d - 1) * k j else 0)
  by_cases hj : j < d
  · rw [h j hj]
  · rw [if_neg hj, if_neg hj]
theorem sub_pw_congr {d : Nat} (hd : 1 ≤ d) {g k : Nat → Fin p} (h : ∀ j, j < d → g j = k j) (n : Nat) (a : R.V) : (R.sub d hd g).pw n a = (R.sub d hd k).pw n a := by
  induction n with
  | zero => rfl
  | succ n ih => show (R.sub d hd g).T _ = (R.sub d hd k).T _; rw [ih, sub_T_congr R hd h]
theorem sub_act_congr {d : Nat} (hd : 1 ≤ d) {g k : Nat → Fin p} (h : ∀ j, j < d → g j = k j) (n : Nat) (b a : R.V) : (R.sub d hd g).act n b a = (R.sub d hd k).act n b a := by
  induction n with
  | zero => rfl
  | succ n ih =>
    show (R.sub d hd g).vadd _ _ = (R.sub d hd k).vadd _ _
    rw [ih, sub_pw_congr R hd h]; rfl
end Rg
/-- The polynomial with the low coefficients low divides the modulus. -/
def DivB (f : Fld) (low : List Int) : Prop := ∃ hd : 1 ≤ low.length, (f.R.sub low.length hd (dv low)).act (f.R.m + 1) f.R.fp (f.R.sub low.length hd (dv low)).e0 = (f.R.sub low.length hd (dv low)).vzero
noncomputable instance (f : Fld) (low : List Int) : Decidable (DivB f low) := Classical.propDecidable _
def IrrB (f : Fld) : Prop := ∀ (d : Nat) (v : Int), 1 ≤ d → 2 * (d : Int) ≤ f.M → 0 ≤ v → v < f.P ^ d → ¬ DivB f (digS f.P d v)
noncomputable instance (f : Fld) : Decidable (IrrB f) := Classical.propDecidable _
theorem irrB_iff {f : Fld} (h : Shape f) : IrrB f ↔ f.R.Irr := by
  have hb := h.bd
  have hp := h.pI
  have hm := h.mI
  constructor
  · intro hi d hd g hdm hz
    have hlen : (dl d g).length = d := length_dl d g
    have hmem : ∀ c ∈ dl d g, 0 ≤ c ∧ c < f.P := by rw [← hp]; exact Rg.dl_mem d g
    have hval := valS_bound f.P hb.1 (dl d g) hmem
    have hdig := digS_valS f.P hb.1 (dl d g) hmem
    rw [hlen] at hval hdig
    refine hi d (valS f.P (dl d g)) hd (by omega) hval.1 hval.2 ?_
    rw [hdig]
    have hco : ∀ j, j < d → dv (p := f.p) (dl d g) j = g j := by
      intro j hj
      unfold dv
      rw [getD_dl, if_pos hj]
      apply Fin.ext
      simp only [Fin.ofNat, Int.toNat_natCast]
      exact Nat.mod_eq_of_lt (g j).isLt
    refine ⟨by omega, ?_⟩
    have key : ∀ (e : Nat) (he : 1 ≤ e) (hed : e = d), (f.R.sub e he (dv (dl d g))).act (f.R.m + 1) f.R.fp (f.R.sub e he (dv (dl d g))).e0 = (f.R.sub e he (dv (dl d g))).vzero := by
      intro e he hed
      subst hed
      rw [Rg.sub_act_congr f.R he hco]; exact hz
    exact key _ (by omega) hlen
  · intro hi d v hd hdm h0 h1 hz
    obtain ⟨hd2, hz⟩ := hz
    exact hi _ hd2 _ (by rw [length_digS]; omega) hz
theorem fok_iff_irrB {f : Fld} (h : Shape f) : FOk f ↔ IrrB f := (fok_iff_irr h).trans (irrB_iff h).symm
theorem fok_one {f : Fld} (h : Shape f) (h1 : f.M = 1) : FOk f := (fok_iff_irrB h).2 (fun d v hd hdm => by omega)
open Classical in
/-- The error of a description. -/
noncomputable def fErr (f : Fld) : Int := if FOk f then 0 else 1
theorem fErr_zero {f : Fld} : fErr f = 0 ↔ FOk f := by
  unfold fErr
  split <;> simp_all
theorem fErr_ok {f : Fld} (h : FOk f) : fErr f = 0 := fErr_zero.2 h
theorem fErr_no {f : Fld} (h : ¬ FOk f) : fErr f = 1 := by unfold fErr; rw [if_neg h]
/-- The modulus with its leading coefficient. -/
theorem dv_fp {f : Fld} (h : Shape f) (h1 : 1 < f.M) : dv (p := f.p) (f.mod ++ [1]) = f.R.fp := by
  have hm := h.mI
  have hl := h.mod_len h1
  have hb := h.bd
  funext j
  unfold dv Rg.fp
  show Fin.ofNat f.p ((f.mod ++ [1]).getD j 0).toNat = if j < f.R.m then (if f.M = 1 then fun _ => 0 else dv f.mod) j else if j = f.R.m then 1 else 0
  rw [if_neg (show ¬ f.M = 1 by omega)]
  by_cases hj : j < f.R.m
  · rw [if_pos hj]
    unfold dv
    congr 2
    simp only [List.getD]
    rw [List.getElem?_append_left (by omega)]
  · rw [if_neg hj]
    by_cases hj2 : j = f.R.m
    · rw [if_pos hj2]
      have : (f.mod ++ [1]).getD j 0 = 1 := by
        simp only [List.getD]
        rw [List.getElem?_append_right (by omega), show j - f.mod.length = 0 by omega]; rfl
      rw [this]
      apply Fin.ext
      rfl
    · rw [if_neg hj2]
      have : (f.mod ++ [1]).getD j 0 = 0 := by
        simp only [List.getD]
        rw [List.getElem?_eq_none (by simp; omega)]; rfl
      rw [this]; rfl
theorem mod1_mem {f : Fld} (h : Shape f) (h1 : 1 < f.M) : ∀ c ∈ f.mod ++ [1], 0 ≤ c ∧ c < f.P := by
  have hb := h.bd
  intro c hc
  rcases List.mem_append.1 hc with hc | hc
  · exact (h.mod_len h1).2 c hc
  · rw [List.mem_singleton] at hc; omega
/-- One step of a reduction, on lists. -/
theorem red_list {p : Nat} [NeZero p] {r : List Int} {i d j : Int} {c l : Int} (S : Rg p) (hmS : (S.m : Int) = d) (hmd : S.md j.toNat = Fin.ofNat p l.toNat) (hr : ∀ y ∈ r, 0 ≤ y ∧ y < (p : Int)) (hi : d ≤ i) (hil : i < r.length) (hj : 0 ≤ j) (hjd : j < d)
    (hc : Fin.ofNat p c.toNat = dv r i.toNat) (hc0 : 0 ≤ c) (hcp : c ≤ p) (hl0 : 0 ≤ l) (X : S.V)
    (h : S.vadd (S.act i.toNat (dv r) S.e0) (S.smul (dv r i.toNat) (S.vadd (S.pw i.toNat S.e0) (S.pw (i.toNat - S.m) (S.act j.toNat S.md S.e0)))) = X) :
    let r' := r.set (i - d + j).toNat ((ix 0 r (i - d + j) + ((p : Int) - c) * l) % p)
    (∀ y ∈ r', 0 ≤ y ∧ y < (p : Int)) ∧ dv (p := p) r' i.toNat = dv r i.toNat ∧
    S.vadd (S.act i.toNat (dv r') S.e0) (S.smul (dv r' i.toNat) (S.vadd (S.pw i.toNat S.e0) (S.pw (i.toNat - S.m) (S.act (j + 1).toNat S.md S.e0)))) = X := by
  intro r'
  have hp : 0 < (p : Int) := by have := S.hp; omega
  have hix := hr _ (ix_mem 0 r (i := i - d + j) (by omega) (by omega))
  have hval := Int.emod_nonneg (ix 0 r (i - d + j) + ((p : Int) - c) * l) (show (p : Int) ≠ 0 by omega)
  have hval2 := Int.emod_lt_of_pos (ix 0 r (i - d + j) + ((p : Int) - c) * l) hp
  have hset : dv (p := p) r' = Rg.upd (dv r) (i.toNat - S.m + j.toNat) (dv r (i.toNat - S.m + j.toNat) + -(dv r i.toNat) * S.md j.toNat) := by
    show dv (r.set _ _) = _
    rw [dv_set r (by omega) (by omega), fin_step hix.1 hc0 hcp hl0, hc, hmd]
    have e : (i - d + j).toNat = i.toNat - S.m + j.toNat := by omega
    rw [← dv_eq r (i - d + j) (by omega), e]
  have hne : dv (p := p) r' i.toNat = dv r i.toNat := by
    rw [hset]; unfold Rg.upd; rw [if_neg (by omega)]
  refine ⟨mem_set_range hr ⟨hval, hval2⟩, hne, ?_⟩
  rw [hne, hset, show (j + 1).toNat = j.toNat + 1 by omega]
  exact Rg.red_step S (dv r) i.toNat j.toNat X (by omega) (by omega) h
/-- What the entries are when the reduction is over. -/
theorem divB_end {f : Fld} {low r : List Int} (hd : 1 ≤ low.length) (hr : ∀ y ∈ r, 0 ≤ y ∧ y < (f.p : Int)) (hz : ∀ k : Int, (low.length : Int) ≤ k → k < r.length → ix 0 r k = 0) (hl : low.length ≤ r.length)
    (h : (f.R.sub low.length hd (dv low)).act low.length (dv r) (f.R.sub low.length hd (dv low)).e0 = (f.R.sub low.length hd (dv low)).act (f.R.m + 1) f.R.fp (f.R.sub low.length hd (dv low)).e0) :
    DivB f low ↔ ∀ k : Int, 0 ≤ k → k < r.length → ix 0 r k = 0 := by
  have hact := Rg.act_e0 (f.R.sub low.length hd (dv low)) low.length (dv r) (Nat.le_refl _)
  constructor
  · rintro ⟨_, hz2⟩ k k0 k1
    by_cases hk : (low.length : Int) ≤ k
    · exact hz k hk k1
    · rw [← h, hact] at hz2
      have h2 : (if k.toNat < low.length then dv (p := f.p) r k.toNat else 0) = 0 := congrFun hz2 k.toNat
      rw [if_pos (by omega)] at h2
      have h3 := dv_range (p := f.p) k k0 k1 hr
      have h4 : dv (p := f.p) r k.toNat = 0 := h2
      rw [h4] at h3
      exact h3.symm
  · intro hall
    refine ⟨hd, ?_⟩
    rw [← h, hact]
    funext j
    show (if j < low.length then dv r j else 0) = 0
    split
    · rename_i hj
      unfold dv
      have := hall (j : Int) (by omega) (by omega)
      have h5 : r.getD j 0 = 0 := by simpa [ix] using this
      rw [h5]; rfl
    · rfl
end Go.Cw
namespace Go.Cw
def inF (f : Fld) (x : Int) : Int := if 0 ≤ x ∧ x < f.q then x else 0
def addF (f : Fld) (x y : Int) : Int := f.R.addc (inF f x) (inF f y)
def negF (f : Fld) (x : Int) : Int := f.R.negc (inF f x)
def mulF (f : Fld) (x y : Int) : Int := f.R.mulc (inF f x) (inF f y)
def powN (f : Fld) (n : Int) : Int := (n.tmod (f.q - 1) + (f.q - 1)) % (f.q - 1)
def powF (f : Fld) (x n : Int) : Int := if n = 0 then 1 else if inF f x = 0 then 0 else f.R.powc (inF f x) (powN f n).toNat
theorem inF_lt {f : Fld} (h : Shape f) (x : Int) : 0 ≤ inF f x ∧ inF f x < f.q := by
  have hb := h.bd
  unfold inF; split <;> omega
theorem inF_id {f : Fld} {x : Int} (h0 : 0 ≤ x) (h1 : x < f.q) : inF f x = x := by unfold inF; rw [if_pos ⟨h0, h1⟩]
namespace Shape
variable {f : Fld}
theorem addF_lt (h : Shape f) (x y : Int) : 0 ≤ addF f x y ∧ addF f x y < f.q := by rw [← card h]; exact Rg.addc_lt f.R _ _
theorem negF_lt (h : Shape f) (x : Int) : 0 ≤ negF f x ∧ negF f x < f.q := by rw [← card h]; exact Rg.negc_lt f.R _
theorem mulF_lt (h : Shape f) (x y : Int) : 0 ≤ mulF f x y ∧ mulF f x y < f.q := by rw [← card h]; exact Rg.mulc_lt f.R _ _
theorem num (h : Shape f) (v : f.R.V) : f.R.num v = valS f.P (dl f.R.m v) := by unfold Rg.num; rw [pI h]
theorem elt_ix (h : Shape f) (x : Int) {i : Int} (h0 : 0 ≤ i) : f.R.elt x i.toNat = Fin.ofNat f.p (ix 0 (digS f.P f.M.toNat x) i).toNat := by
  rw [elt h]; rfl
end Shape
/-- One step of the product of polynomials. -/
theorem conv_list {f : Fld} (h : Shape f) {cs : List Int} {x y i j : Int} (hl : (cs.length : Int) = 2 * f.M - 1) (hr : ∀ z ∈ cs, 0 ≤ z ∧ z < (f.p : Int)) (i0 : 0 ≤ i) (i1 : i < f.M) (j0 : 0 ≤ j) (j1 : j < f.M)
    (hX : f.R.act (2 * f.R.m - 1) (dv cs) f.R.e0 = f.R.vadd (f.R.act i.toNat (f.R.elt x) (f.R.act f.R.m (f.R.elt y) f.R.e0)) (f.R.smul (f.R.elt x i.toNat) (f.R.pw i.toNat (f.R.act j.toNat (f.R.elt y) f.R.e0)))) :
    let cs' := cs.set (i + j).toNat ((ix 0 cs (i + j) + ix 0 (digS f.P f.M.toNat x) i * ix 0 (digS f.P f.M.toNat y) j) % f.P)
    (∀ z ∈ cs', 0 ≤ z ∧ z < (f.p : Int)) ∧
    f.R.act (2 * f.R.m - 1) (dv cs') f.R.e0 = f.R.vadd (f.R.act i.toNat (f.R.elt x) (f.R.act f.R.m (f.R.elt y) f.R.e0)) (f.R.smul (f.R.elt x i.toNat) (f.R.pw i.toNat (f.R.act (j + 1).toNat (f.R.elt y) f.R.e0))) := by
  intro cs'
  have hb := h.bd
  have hp := h.pI
  have hm := h.mI
  have hix := hr _ (ix_mem 0 cs (i := i + j) (by omega) (by omega))
  have hdx := h.dig_ix x i0 i1
  have hdy := h.dig_ix y j0 j1
  have hv := Int.emod_nonneg (ix 0 cs (i + j) + ix 0 (digS f.P f.M.toNat x) i * ix 0 (digS f.P f.M.toNat y) j) (show f.P ≠ 0 by omega)
  have hv2 := Int.emod_lt_of_pos (ix 0 cs (i + j) + ix 0 (digS f.P f.M.toNat x) i * ix 0 (digS f.P f.M.toNat y) j) (show 0 < f.P by omega)
  refine ⟨mem_set_range hr ⟨hv, by omega⟩, ?_⟩
  have hset : dv (p := f.p) cs' = Rg.upd (dv cs) (i.toNat + j.toNat) (dv cs (i.toNat + j.toNat) + f.R.elt x i.toNat * f.R.elt y j.toNat) := by
    show dv (cs.set _ _) = _
    rw [dv_set cs (by omega) (by omega)]
    have e := fin_step2 (p := f.p) hix.1 hdx.1 hdy.1
    rw [hp] at e
    rw [e, h.elt_ix x i0, h.elt_ix y j0, show (i + j).toNat = i.toNat + j.toNat by omega, ← dv_eq cs (i + j) (by omega), show (i + j).toNat = i.toNat + j.toNat by omega]
  rw [hset, show (j + 1).toNat = j.toNat + 1 by omega]
  exact Rg.conv_step f.R _ _ _ _ _ (by omega) (by omega) hX
theorem conv_start {f : Fld} (x y : Int) (n : Nat) : f.R.act (2 * f.R.m - 1) (dv (List.replicate n 0)) f.R.e0 = f.R.vadd (f.R.act (0 : Int).toNat (f.R.elt x) (f.R.act f.R.m (f.R.elt y) f.R.e0)) (f.R.smul (f.R.elt x (0 : Int).toNat) (f.R.pw (0 : Int).toNat (f.R.act (0 : Int).toNat (f.R.elt y) f.R.e0))) := by
  have h1 : dv (p := f.p) (List.replicate n 0) = f.R.vzero := by
    funext j
    unfold dv
    have : (List.replicate n (0 : Int)).getD j 0 = 0 := by
      simp only [List.getD, List.getElem?_replicate]
      split <;> rfl
    rw [this]; rfl
  have h2 : ∀ k, f.R.act k f.R.vzero f.R.e0 = f.R.vzero := by
    intro k
    induction k with
    | zero => rfl
    | succ k ih =>
      simp only [Rg.act]; rw [ih]
      funext j; simp only [Rg.vadd, Rg.smul, Rg.vzero]; grind
  rw [h1, h2]
  show f.R.vzero = f.R.vadd f.R.vzero (f.R.smul _ f.R.vzero)
  rw [Rg.smul_zero]
  funext j; simp only [Rg.vadd, Rg.vzero]; grind
theorem conv_next {f : Fld} {cs : List Int} {x y i : Int} (i0 : 0 ≤ i) (hX : f.R.act (2 * f.R.m - 1) (dv cs) f.R.e0 = f.R.vadd (f.R.act i.toNat (f.R.elt x) (f.R.act f.R.m (f.R.elt y) f.R.e0)) (f.R.smul (f.R.elt x i.toNat) (f.R.pw i.toNat (f.R.act f.R.m (f.R.elt y) f.R.e0)))) :
    f.R.act (2 * f.R.m - 1) (dv cs) f.R.e0 = f.R.vadd (f.R.act (i + 1).toNat (f.R.elt x) (f.R.act f.R.m (f.R.elt y) f.R.e0)) (f.R.smul (f.R.elt x (i + 1).toNat) (f.R.pw (i + 1).toNat (f.R.act (0 : Int).toNat (f.R.elt y) f.R.e0))) := by
  rw [show (i + 1).toNat = i.toNat + 1 by omega]
  exact Rg.conv_row f.R _ _ _ _ hX
theorem conv_end {f : Fld} {cs : List Int} {x y : Int} {i : Int} (hi : i.toNat = f.R.m) (hX : f.R.act (2 * f.R.m - 1) (dv cs) f.R.e0 = f.R.vadd (f.R.act i.toNat (f.R.elt x) (f.R.act f.R.m (f.R.elt y) f.R.e0)) (f.R.smul (f.R.elt x i.toNat) (f.R.pw i.toNat (f.R.act (0 : Int).toNat (f.R.elt y) f.R.e0)))) :
    f.R.act (2 * f.R.m - 1) (dv cs) f.R.e0 = f.R.mul (f.R.elt x) (f.R.elt y) := by
  rw [hX, hi]
  have h1 : f.R.act f.R.m (f.R.elt y) f.R.e0 = f.R.elt y := Rg.mul_e0 f.R (Rg.elt_el f.R y)
  rw [h1]
  show f.R.vadd (f.R.mul (f.R.elt x) (f.R.elt y)) (f.R.smul _ (f.R.pw _ f.R.vzero)) = _
  rw [Rg.pw_zero, Rg.smul_zero]
  funext j; simp only [Rg.vadd, Rg.vzero]; grind
theorem take_val {f : Fld} (h : Shape f) {cs : List Int} (hl : f.M ≤ (cs.length : Int)) (hr : ∀ z ∈ cs, 0 ≤ z ∧ z < (f.p : Int)) (X : f.R.V) (hX : f.R.act f.R.m (dv cs) f.R.e0 = X) : valS f.P (cs.take f.M.toNat) = f.R.num X := by
  have hb := h.bd
  have hm := h.mI
  rw [h.num, ← hX, Rg.act_e0 f.R f.R.m (dv cs) (Nat.le_refl _)]
  congr 1
  apply List.ext_getElem
  · rw [length_dl, List.length_take]; omega
  · intro j h1 h2
    rw [length_dl] at h2
    simp only [dl, List.getElem_take, List.getElem_map, List.getElem_range]
    rw [if_pos h2]
    have hj : j < cs.length := by omega
    have := dv_range (p := f.p) (l := cs) (j : Int) (by omega) (by omega) hr
    simp only [Int.toNat_natCast] at this
    rw [this]
    simp [ix, List.getD, hj]
theorem mulc_num {f : Fld} (x y : Int) : f.R.num (f.R.mul (f.R.elt x) (f.R.elt y)) = f.R.mulc x y := by
  unfold Rg.mulc; rw [Rg.mul_comm f.R (Rg.elt_el f.R x) (Rg.elt_el f.R y)]
/-- Powers of the generator come round. -/
theorem FOk.powc_mod {f : Fld} (h : FOk f) (n : Nat) : f.R.powc f.R.gen (n % (f.q - 1).toNat) = f.R.powc f.R.gen n := by
  have hc := h.1.card
  have hg := (Rg.gen_spec f.R h.2).good.2
  rw [hc] at hg
  have h1 : ∀ k : Nat, f.R.powc f.R.gen ((f.q - 1).toNat * k) = 1 := by
    intro k
    induction k with
    | zero => exact Rg.powc_zero f.R _
    | succ k ih =>
      rw [Nat.mul_succ, ← Rg.mulc_powc, ih, hg]
      exact Rg.mulc_one_left f.R (by omega) (by have := Rg.card_pos f.R; omega)
  conv => rhs; rw [← Nat.div_add_mod n (f.q - 1).toNat, ← Rg.mulc_powc, h1]
  exact (Rg.mulc_one_left f.R (Rg.powc_lt f.R _ _).1 (Rg.powc_lt f.R _ _).2).symm
/-- The product by logarithms. -/
theorem FOk.mul_log {f : Fld} (h : FOk f) {x y : Int} (x0 : 1 ≤ x) (x1 : x < f.q) (y0 : 1 ≤ y) (y1 : y < f.q) :
    ix 0 f.exps ((ix 0 f.logs x + ix 0 f.logs y) % (f.q - 1)) = f.R.mulc x y := by
  have hb := h.1.bd
  have hx := h.log x0 x1
  have hy := h.log y0 y1
  have hm := Int.emod_nonneg (ix 0 f.logs x + ix 0 f.logs y) (show f.q - 1 ≠ 0 by omega)
  have hm2 := Int.emod_lt_of_pos (ix 0 f.logs x + ix 0 f.logs y) (show 0 < f.q - 1 by omega)
  rw [(h.exp_ix hm hm2).1]
  have e : ((ix 0 f.logs x + ix 0 f.logs y) % (f.q - 1)).toNat = ((ix 0 f.logs x).toNat + (ix 0 f.logs y).toNat) % (f.q - 1).toNat := by
    rw [Int.toNat_emod (by omega) (by omega), toNat_add' hx.1 hy.1]
  rw [e, h.powc_mod, ← Rg.mulc_powc, hx.2.2, hy.2.2]
end Go.Cw
namespace Go.Cw
def wadd (p : Int) : Nat → Int → Int → Int
  | 0, _, _ => 0
  | n + 1, x, y => (x % p + y % p) % p + p * wadd p n (x / p) (y / p)
def dadd (p : Int) : Nat → Int → Int → List Int
  | 0, _, _ => []
  | n + 1, x, y => (x % p + y % p) % p :: dadd p n (x / p) (y / p)
theorem wadd_succ (p : Int) {n : Nat} (h : 1 ≤ n) (x y : Int) : wadd p n x y = (x % p + y % p) % p + p * wadd p (n - 1) (x / p) (y / p) := by
  obtain ⟨k, rfl⟩ : ∃ k, n = k + 1 := ⟨n - 1, by omega⟩
  rfl
theorem wadd_zero (p : Int) : ∀ n, wadd p n 0 0 = 0
  | 0 => rfl
  | n + 1 => by simp [wadd, wadd_zero p n]
theorem wadd_nonneg (p : Int) (hp : 2 ≤ p) : ∀ n x y, 0 ≤ wadd p n x y
  | 0, _, _ => Int.le_refl _
  | n + 1, x, y => by
    have h1 := wadd_nonneg p hp n (x / p) (y / p)
    have h2 := Int.emod_nonneg (x % p + y % p) (show p ≠ 0 by omega)
    have h3 := Int.mul_nonneg (show 0 ≤ p by omega) h1
    simp only [wadd]; omega
theorem valS_dadd (p : Int) : ∀ n x y, valS p (dadd p n x y) = wadd p n x y
  | 0, _, _ => rfl
  | n + 1, x, y => by
    simp only [dadd, valS, wadd, valS_dadd p n]
    rw [Int.mul_comm]; omega
theorem length_dadd (p : Int) : ∀ n x y, (dadd p n x y).length = n
  | 0, _, _ => rfl
  | n + 1, x, y => by simp [dadd, length_dadd p n]
theorem getElem?_dadd (p : Int) : ∀ (n : Nat) (x y : Int) (j : Nat), j < n → (dadd p n x y)[j]? = some (((digS p n x).getD j 0 + (digS p n y).getD j 0) % p)
  | 0, _, _, _, h => by omega
  | n + 1, x, y, 0, _ => by simp [dadd, digS]
  | n + 1, x, y, j + 1, h => by
    have := getElem?_dadd p n (x / p) (y / p) j (by omega)
    simpa [dadd, digS] using this
theorem Shape.addc_wadd {f : Fld} (h : Shape f) (x y : Int) : f.R.addc x y = wadd f.P f.M.toNat x y := by
  have hb := h.bd
  have hP := h.pI
  have hN := h.mN
  rw [← valS_dadd]
  show f.R.num (f.R.vadd (f.R.elt x) (f.R.elt y)) = _
  rw [h.num]
  congr 1
  apply List.ext_getElem?
  intro j
  by_cases hj : j < f.R.m
  · rw [getElem?_dadd _ _ _ _ _ (by omega)]
    have e : (dl f.R.m (f.R.vadd (f.R.elt x) (f.R.elt y)))[j]? = some (((f.R.vadd (f.R.elt x) (f.R.elt y)) j).val : Int) := by simp [dl, hj]
    rw [e]
    have hx := h.dig_ix x (i := (j : Int)) (by omega) (by omega)
    have hy := h.dig_ix y (i := (j : Int)) (by omega) (by omega)
    have e1 := h.elt_ix x (i := (j : Int)) (by omega)
    have e2 := h.elt_ix y (i := (j : Int)) (by omega)
    simp only [Int.toNat_natCast] at e1 e2
    simp only [ix, Int.toNat_natCast] at hx hy e1 e2
    congr 1
    show (((f.R.elt x j + f.R.elt y j : Fin f.p).val : Nat) : Int) = _
    rw [e1, e2, ← fin_ofNat_add, ← toNat_add' hx.1 hy.1, ← fin_of_emod _ (by omega), hP]
    have h1 := Int.emod_nonneg ((digS f.P f.M.toNat x).getD j 0 + (digS f.P f.M.toNat y).getD j 0) (show f.P ≠ 0 by omega)
    have h2 := Int.emod_lt_of_pos ((digS f.P f.M.toNat x).getD j 0 + (digS f.P f.M.toNat y).getD j 0) (show 0 < f.P by omega)
    exact fin_val_int h1 (by omega)
  · rw [List.getElem?_eq_none (by rw [length_dl]; omega), List.getElem?_eq_none (by rw [length_dadd]; omega)]
theorem wadd_two : ∀ (n a b : Nat), a < 2 ^ n → b < 2 ^ n → wadd 2 n a b = ((a ^^^ b : Nat) : Int)
  | 0, a, b, ha, hb => by
    have h1 : a = 0 := by omega
    have h2 : b = 0 := by omega
    subst h1 h2; rfl
  | n + 1, a, b, ha, hb => by
    have h1 : a / 2 < 2 ^ n := by rw [Nat.pow_succ] at ha; omega
    have h2 : b / 2 < 2 ^ n := by rw [Nat.pow_succ] at hb; omega
    have ih := wadd_two n (a / 2) (b / 2) h1 h2
    have e1 : (a ^^^ b) / 2 = a / 2 ^^^ b / 2 := Nat.xor_div_two
    have e2 : (a ^^^ b) % 2 = (a + b) % 2 := by
      have := @Nat.xor_mod_two_eq_one a b
      omega
    simp only [wadd]
    rw [show ((a : Int) / 2) = ((a / 2 : Nat) : Int) by omega, show ((b : Int) / 2) = ((b / 2 : Nat) : Int) by omega, ih, ← e1]
    omega
theorem Shape.addF_xor {f : Fld} (h : Shape f) (h2 : f.P = 2) (x y : Int) : (((inF f x).toNat ^^^ (inF f y).toNat : Nat) : Int) = addF f x y := by
  have hb := h.bd
  have hx := inF_lt h x
  have hy := inF_lt h y
  have hq : f.q = 2 ^ f.M.toNat := by rw [hb.2.2.2.2.1, h2]
  unfold addF
  rw [h.addc_wadd, h2]
  have e : ((2 ^ f.M.toNat : Nat) : Int) = (2 : Int) ^ f.M.toNat := by simp
  rw [← wadd_two f.M.toNat _ _ (by omega) (by omega), show (((inF f x).toNat : Nat) : Int) = inF f x by omega, show (((inF f y).toNat : Nat) : Int) = inF f y by omega]
/-- The sum of the products, as far as both lists extend. -/
def dotTo (f : Fld) (a b : List Int) : Nat → Int
  | 0 => 0
  | n + 1 => addF f (dotTo f a b n) (mulF f (ix 0 a n) (ix 0 b n))
def dotF (f : Fld) (a b : List Int) : Int := dotTo f a b (min a.length b.length)
end Go.Cw
namespace Go.Cw
theorem mulF_zero {f : Fld} (h : Shape f) {x y : Int} (hz : inF f x = 0 ∨ inF f y = 0) : mulF f x y = 0 := by
  unfold mulF Rg.mulc
  rcases hz with hz | hz
  · rw [hz, Rg.elt_zero, Rg.mul_zero]; exact Rg.num_zero f.R
  · rw [hz, Rg.elt_zero, Rg.mul_zero_left]; exact Rg.num_zero f.R
theorem pow_le_q {w p q : Int} (h : w * p = q) (hw : 1 ≤ w) (hp : 1 ≤ p) : p ≤ q := by
  have := Int.mul_le_mul_of_nonneg_right hw (show 0 ≤ p by omega)
  omega
/-- The first i entries are those of l, the others those of r. -/
def mixL (l r : List Int) (i : Int) : List Int := l.take i.toNat ++ r.drop i.toNat
theorem mixL_zero (l r : List Int) : mixL l r 0 = r := by simp [mixL]
theorem mixL_all (l r : List Int) {i : Int} (h : l.length ≤ i) (h2 : r.length ≤ i) : mixL l r i = l := by
  unfold mixL; rw [List.take_of_length_le (by omega), List.drop_of_length_le (by omega), List.append_nil]
theorem length_mixL (l r : List Int) {i : Int} (h : l.length = r.length) : (mixL l r i).length = r.length := by
  unfold mixL; simp; omega
theorem ix_mixL (l r : List Int) {i : Int} (h0 : 0 ≤ i) (h1 : i < r.length) (h : l.length = r.length) : ix 0 (mixL l r i) i = ix 0 r i := by
  unfold mixL ix
  simp only [List.getD]
  rw [List.getElem?_append_right (by simp; omega)]
  simp only [List.length_take, List.getElem?_drop]
  rw [show i.toNat + (i.toNat - min i.toNat l.length) = i.toNat by omega]
theorem mixL_set (l r : List Int) {i v : Int} (h0 : 0 ≤ i) (h1 : i < r.length) (h : l.length = r.length) (hv : v = ix 0 l i) : (mixL l r i).set i.toNat v = mixL l r (i + 1) := by
  have hl : i.toNat < l.length := by omega
  unfold mixL
  have e : (l.take i.toNat).length = i.toNat := by simp; omega
  have e2 : l[i.toNat]?.toList = [ix 0 l i] := by simp [ix, List.getD, hl]
  rw [show (i + 1).toNat = i.toNat + 1 by omega, List.set_append_right _ _ (by simp; omega), hv]
  rw [e, Nat.sub_self, List.drop_eq_getElem_cons (show i.toNat < r.length by omega), List.set_cons_zero, List.take_add_one, e2, List.append_assoc]
  rfl
theorem ix_dadd (p : Int) (n : Nat) (x y : Int) {i : Int} (h0 : 0 ≤ i) (h1 : i < n) : ix 0 (dadd p n x y) i = (ix 0 (digS p n x) i + ix 0 (digS p n y) i) % p := by
  have := getElem?_dadd p n x y i.toNat (by omega)
  unfold ix
  simp only [List.getD, this, Option.getD_some]
theorem dadd_mem (p : Int) (hp : 2 ≤ p) : ∀ (n : Nat) (x y : Int), ∀ c ∈ dadd p n x y, 0 ≤ c ∧ c < p
  | 0, _, _, c, h => by simp [dadd] at h
  | n + 1, x, y, c, h => by
    rcases List.mem_cons.1 h with h1 | h1
    · rw [h1]; exact ⟨Int.emod_nonneg _ (by omega), Int.emod_lt_of_pos _ (by omega)⟩
    · exact dadd_mem p hp n _ _ c h1
end Go.Cw

