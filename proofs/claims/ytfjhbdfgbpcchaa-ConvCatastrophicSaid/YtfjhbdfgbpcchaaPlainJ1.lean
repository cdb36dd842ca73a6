/-
  Plain facts.
-/
import Derived.Test.YtfjhbdfgbpcchaaCxLib
set_option linter.unnecessarySimpa false
set_option linter.unusedVariables false
set_option linter.unusedSimpArgs false
set_option linter.unusedSectionVars false
namespace Go.Cw
def mapR {α : Type} (f : Int → α) (v : Int) : List α := (List.range v.toNat).map fun (i : Nat) => f (i : Int)
theorem mapR_zero {α : Type} (f : Int → α) : mapR f 0 = [] := rfl
theorem mapR_succ {α : Type} (f : Int → α) {v : Int} (h : 0 ≤ v) : mapR f (v + 1) = mapR f v ++ [f v] := by
 unfold mapR
 rw [show (v + 1).toNat = v.toNat + 1 by omega, List.range_succ, List.map_append]
 simp only [List.map_cons, List.map_nil]
 rw [show ((v.toNat : Nat) : Int) = v by omega]
@[simp] theorem length_mapR {α : Type} (f : Int → α) (v : Int) : (mapR f v).length = v.toNat := by simp [mapR]
theorem mapR_congr {α : Type} {f g : Int → α} {v : Int} (h : ∀ i, 0 ≤ i → i < v → f i = g i) : mapR f v = mapR g v := by
 unfold mapR
 apply List.map_congr_left
 intro i hi
 rw [List.mem_range] at hi
 exact h i (by omega) (by omega)
theorem ix_mapR {α : Type} (d : α) (f : Int → α) {v i : Int} (h0 : 0 ≤ i) (h1 : i < v) : ix d (mapR f v) i = f i := by
 unfold mapR
 have : i.toNat < v.toNat := by omega
 simp [ix, List.getD, this, show ((i.toNat : Nat) : Int) = i by omega]
def mapT {α β : Type} (f : α → β) (l : List α) (i : Int) : List β := (l.take i.toNat).map f
theorem take_succ_ix {α : Type} (d : α) (l : List α) {i : Int} (h0 : 0 ≤ i) (h1 : i < l.length) : l.take (i + 1).toNat = l.take i.toNat ++ [ix d l i] := by
 have hi : i.toNat < l.length := by omega
 rw [show (i + 1).toNat = i.toNat + 1 by omega, List.take_add_one]
 simp [ix, List.getD, hi]
theorem mapT_succ {α β : Type} (d : α) (f : α → β) (l : List α) {i : Int} (h0 : 0 ≤ i) (h1 : i < l.length) : mapT f l (i + 1) = mapT f l i ++ [f (ix d l i)] := by
 unfold mapT
 rw [take_succ_ix d l h0 h1, List.map_append]; rfl
theorem length_mapT {α β : Type} (f : α → β) (l : List α) {i : Int} (h1 : i ≤ l.length) : (mapT f l i).length = i.toNat := by simp [mapT]; omega
theorem mapT_all {α β : Type} (f : α → β) (l : List α) {i : Int} (h1 : l.length ≤ i) : mapT f l i = l.map f := by
 unfold mapT
 rw [List.take_of_length_le (by omega)]
theorem mem_take_getD {α : Type} (d : α) (l : List α) (n : Nat) (x : α) (h : x ∈ l.take n) : ∃ j : Nat, j < n ∧ j < l.length ∧ ix d l (j : Int) = x := by
 obtain ⟨j, hj⟩ := List.mem_iff_getElem?.1 h
 rw [List.getElem?_take] at hj
 split at hj
 ·rename_i hjn
  obtain ⟨h1, h2⟩ := List.getElem?_eq_some_iff.1 hj
  exact ⟨j, hjn, h1, by simp [ix, List.getD, h1, h2]⟩
 ·cases hj
theorem ix_mem {α : Type} (d : α) (l : List α) {i : Int} (h0 : 0 ≤ i) (h1 : i < l.length) : ix d l i ∈ l := by
 have : i.toNat < l.length := by omega
 simp [ix, List.getD, this]
def ixOf (l : List Int) (x : Int) : Int := if x ∈ l then (l.idxOf x : Int) else -1
theorem ixOf_at (l : List Int) (x : Int) {i : Int} (h0 : 0 ≤ i) (h1 : i < l.length) (hx : ix 0 l i = x) (hn : x ∉ l.take i.toNat) : ixOf l x = i := by
 have hi : i.toNat < l.length := by omega
 have hm : x ∈ l := by rw [← hx]; exact ix_mem 0 l h0 h1
 unfold ixOf
 rw [if_pos hm]
 have hs : l = l.take i.toNat ++ (x :: l.drop (i.toNat + 1)) := by
  conv => lhs; rw [← List.take_append_drop i.toNat l, List.drop_eq_getElem_cons hi]
  simp only [ix, List.getD, List.getElem?_eq_getElem hi, Option.getD_some] at hx
  rw [hx]
 have : l.idxOf x = i.toNat := by
  rw [hs, List.idxOf_append, if_neg hn]
  simp; omega
 omega
theorem nodup_take_succ (l : List Int) {i : Int} (h0 : 0 ≤ i) (h1 : i < l.length) : (l.take (i + 1).toNat).Nodup ↔ (l.take i.toNat).Nodup ∧ ix 0 l i ∉ l.take i.toNat := by
 rw [take_succ_ix 0 l h0 h1, List.nodup_append]
 simp
 grind
theorem nodup_lt_length : ∀ (n : Nat) (l : List Int), l.Nodup → (∀ x ∈ l, 0 ≤ x ∧ x < n) → l.length ≤ n := by
 intro n
 induction n with
 | zero =>
  intro l _ h
  cases l with
  | nil => simp
  | cons x r => have := h x (by simp); omega
 | succ n ih =>
  intro l hn h
  by_cases hm : (n : Int) ∈ l
  ·have h1 := ih (l.erase (n : Int)) (hn.erase _) (fun x hx => by
    have h2 := h x (List.mem_of_mem_erase hx)
    have h3 : x ≠ (n : Int) := fun he => by subst he; exact (List.Nodup.not_mem_erase hn) hx
    omega)
   rw [List.length_erase_of_mem hm] at h1
   omega
  ·have := ih l hn (fun x hx => by
    have h2 := h x hx
    have h3 : x ≠ (n : Int) := fun he => hm (he ▸ hx)
    omega)
   omega
theorem mapR_set {α : Type} (f : Int → α) {v i : Int} (h0 : 0 ≤ i) (a : α) : (mapR f v).set i.toNat a = mapR (fun c => if c = i then a else f c) v := by
 apply List.ext_getElem (by simp)
 intro j h1 h2
 rw [List.getElem_set]
 simp only [mapR, List.getElem_map, List.getElem_range]
 by_cases hj : i.toNat = j
 ·rw [if_pos hj, if_pos (by omega)]
 ·rw [if_neg hj, if_neg (by omega)]
theorem mapR_const {α : Type} (a : α) (v : Int) : mapR (fun _ => a) v = List.replicate v.toNat a := by
 apply List.ext_getElem (by simp)
 intro j h1 h2
 simp [mapR]
def fillR {α : Type} (f : Int → α) (d : α) (n v : Int) : List α := mapR f v ++ List.replicate (n - v).toNat d
theorem fillR_zero {α : Type} (f : Int → α) (d : α) (n : Int) : fillR f d n 0 = List.replicate n.toNat d := by simp [fillR, mapR_zero]
theorem fillR_all {α : Type} (f : Int → α) (d : α) {n v : Int} (h : n ≤ v) : fillR f d n v = mapR f v := by
 unfold fillR; rw [show (n - v).toNat = 0 by omega]; simp
theorem length_fillR {α : Type} (f : Int → α) (d : α) {n v : Int} (h0 : 0 ≤ v) (h1 : v ≤ n) : (fillR f d n v).length = n.toNat := by simp [fillR]; omega
theorem fillR_set {α : Type} (f : Int → α) (d : α) {n v : Int} (h0 : 0 ≤ v) (h1 : v < n) : (fillR f d n v).set v.toNat (f v) = fillR f d n (v + 1) := by
 unfold fillR
 rw [mapR_succ f h0, show (n - v).toNat = (n - (v + 1)).toNat + 1 by omega, List.replicate_succ]
 have hl : (mapR f v).length = v.toNat := length_mapR f v
 rw [List.set_append_right _ _ (by omega), hl, Nat.sub_self, List.set_cons_zero, List.append_assoc]; rfl
end Go.Cw
set_option linter.unusedVariables false
set_option linter.unusedSimpArgs false
set_option linter.unusedSectionVars false
namespace Go.Cw
set_option linter.unusedVariables false
structure Rg (p : Nat) where
 m : Nat
 hp : 2 ≤ p
 hm : 1 ≤ m
 md : Nat → Fin p
abbrev Rg.V {p : Nat} (_ : Rg p) := Nat → Fin p
namespace Rg
variable {p : Nat} [NeZero p] (R : Rg p)
def vadd (a b : R.V) : R.V := fun i => a i + b i
def smul (s : Fin p) (a : R.V) : R.V := fun i => s * a i
def vzero : R.V := fun _ => 0
def vneg (a : R.V) : R.V := fun i => - a i
def T (a : R.V) : R.V := fun j => if j < R.m then (if j = 0 then 0 else a (j - 1)) - a (R.m - 1) * R.md j else 0
def pw : Nat → R.V → R.V
 | 0, a => a
 | n + 1, a => R.T (pw n a)
def act : Nat → R.V → R.V → R.V
 | 0, _, _ => R.vzero
 | n + 1, b, a => R.vadd (act n b a) (R.smul (b n) (R.pw n a))
def e0 : R.V := fun j => if j = 0 then 1 else 0
def mul (b a : R.V) : R.V := R.act R.m b a
def El (a : R.V) : Prop := ∀ j, R.m ≤ j → a j = 0
theorem T_add (a b : R.V) : R.T (R.vadd a b) = R.vadd (R.T a) (R.T b) := by
 funext j; unfold T vadd; dsimp only; split
 ·split <;> grind
 ·grind
theorem T_smul (s : Fin p) (a : R.V) : R.T (R.smul s a) = R.smul s (R.T a) := by
 funext j; unfold T smul; dsimp only; split
 ·split <;> grind
 ·grind
theorem T_zero : R.T R.vzero = R.vzero := by
 funext j; unfold T vzero; split
 ·split <;> grind
 ·grind
theorem pw_add (n : Nat) (a b : R.V) : R.pw n (R.vadd a b) = R.vadd (R.pw n a) (R.pw n b) := by
 induction n with
 | zero => rfl
 | succ n ih => simp only [pw, ih, T_add]
theorem pw_smul (n : Nat) (s : Fin p) (a : R.V) : R.pw n (R.smul s a) = R.smul s (R.pw n a) := by
 induction n with
 | zero => rfl
 | succ n ih => simp only [pw, ih, T_smul]
theorem pw_zero (n : Nat) : R.pw n R.vzero = R.vzero := by
 induction n with
 | zero => rfl
 | succ n ih => simp only [pw, ih, T_zero]
theorem pw_T (n : Nat) (a : R.V) : R.pw n (R.T a) = R.T (R.pw n a) := by
 induction n with
 | zero => rfl
 | succ n ih => simp only [pw, ih]
theorem pw_pw (n k : Nat) (a : R.V) : R.pw n (R.pw k a) = R.pw (n + k) a := by
 induction n with
 | zero => simp [pw]
 | succ n ih => rw [Nat.succ_add]; simp only [pw, ih]
theorem vadd_ac (a b c d : R.V) : R.vadd (R.vadd a b) (R.vadd c d) = R.vadd (R.vadd a c) (R.vadd b d) := by
 funext j; unfold vadd; grind
theorem smul_add (s : Fin p) (a b : R.V) : R.smul s (R.vadd a b) = R.vadd (R.smul s a) (R.smul s b) := by
 funext j; unfold vadd smul; grind
theorem smul_zero (s : Fin p) : R.smul s R.vzero = R.vzero := by
 funext j; unfold vzero smul; grind
theorem smul_smul (s t : Fin p) (a : R.V) : R.smul s (R.smul t a) = R.smul t (R.smul s a) := by
 funext j; unfold smul; grind
theorem act_add (n : Nat) (b a c : R.V) : R.act n b (R.vadd a c) = R.vadd (R.act n b a) (R.act n b c) := by
 induction n with
 | zero => funext j; simp only [act, vadd, vzero]; grind
 | succ n ih => simp only [act, ih, pw_add, smul_add]; rw [vadd_ac]
theorem act_smul (n : Nat) (b : R.V) (s : Fin p) (a : R.V) : R.act n b (R.smul s a) = R.smul s (R.act n b a) := by
 induction n with
 | zero => simp only [act, smul_zero]
 | succ n ih => simp only [act, ih, pw_smul, smul_add]; rw [smul_smul R (b n) s]
theorem act_zero (n : Nat) (b : R.V) : R.act n b R.vzero = R.vzero := by
 induction n with
 | zero => rfl
 | succ n ih => simp only [act, ih, pw_zero, smul_zero]; funext j; simp only [vadd, vzero]; grind
theorem T_act (n : Nat) (b a : R.V) : R.T (R.act n b a) = R.act n b (R.T a) := by
 induction n with
 | zero => exact T_zero R
 | succ n ih => simp only [act, T_add, T_smul, ih, pw_T]
theorem pw_act (k n : Nat) (b a : R.V) : R.pw k (R.act n b a) = R.act n b (R.pw k a) := by
 induction k with
 | zero => rfl
 | succ k ih => simp only [pw, ih, T_act]
theorem act_act (n k : Nat) (b c a : R.V) : R.act n b (R.act k c a) = R.act k c (R.act n b a) := by
 induction n with
 | zero => simp only [act, act_zero]
 | succ n ih => simp only [act, ih, act_add, act_smul, pw_act]
theorem pw_e0 (n : Nat) (h : n < R.m) : R.pw n R.e0 = fun j => if j = n then 1 else 0 := by
 induction n with
 | zero => rfl
 | succ n ih =>
  simp only [pw]; rw [ih (by omega)]
  funext j; unfold T; dsimp only
  rw [if_neg (show ¬ R.m - 1 = n by omega)]
  by_cases h1 : j < R.m
  ·rw [if_pos h1]
   by_cases h2 : j = 0
   ·subst h2; rw [if_pos rfl, if_neg (by omega)]; grind
   ·rw [if_neg h2]
    by_cases h3 : j = n + 1
    ·rw [if_pos h3, if_pos (by omega)]; grind
    ·rw [if_neg h3, if_neg (by omega)]; grind
  ·rw [if_neg h1, if_neg (by omega)]
theorem act_e0 (n : Nat) (b : R.V) (h : n ≤ R.m) : R.act n b R.e0 = fun j => if j < n then b j else 0 := by
 induction n with
 | zero => funext j; simp [act, vzero]
 | succ n ih =>
  simp only [act]; rw [ih (by omega), pw_e0 R n (by omega)]
  funext j; unfold vadd smul; dsimp only
  by_cases h1 : j < n
  ·rw [if_pos h1, if_neg (by omega), if_pos (by omega)]; grind
  ·rw [if_neg h1]
   by_cases h2 : j = n
   ·subst h2; rw [if_pos rfl, if_pos (by omega)]; grind
   ·rw [if_neg h2, if_neg (by omega)]; grind
theorem mul_e0 {b : R.V} (hb : R.El b) : R.mul b R.e0 = b := by
 unfold mul; rw [act_e0 R R.m b (Nat.le_refl _)]
 funext j
 by_cases h : j < R.m
 ·rw [if_pos h]
 ·rw [if_neg h, hb j (by omega)]
theorem mul_comm {a b : R.V} (ha : R.El a) (hb : R.El b) : R.mul a b = R.mul b a := by
 have h1 := mul_e0 R hb
 have h2 := mul_e0 R ha
 unfold mul at *
 calc R.act R.m a b = R.act R.m a (R.act R.m b R.e0) := by rw [h1]
  _ = R.act R.m b (R.act R.m a R.e0) := act_act ..
  _ = R.act R.m b a := by rw [h2]
theorem T_el (a : R.V) : R.El (R.T a) := by
 intro j h; unfold T; rw [if_neg (by omega)]
theorem pw_el (n : Nat) {a : R.V} (h : R.El a) : R.El (R.pw n a) := by
 cases n with
 | zero => exact h
 | succ n => exact T_el R _
theorem act_el (n : Nat) (b : R.V) {a : R.V} (h : R.El a) : R.El (R.act n b a) := by
 induction n with
 | zero => intro j _; rfl
 | succ n ih =>
  intro j hj
  simp only [act, vadd, smul]
  rw [ih j hj, pw_el R n h j hj]; grind
theorem mul_el (a : R.V) {b : R.V} (h : R.El b) : R.El (R.mul a b) := act_el R _ _ h
theorem mul_assoc {a b c : R.V} (ha : R.El a) (hb : R.El b) (hc : R.El c) : R.mul (R.mul a b) c = R.mul a (R.mul b c) := by
 rw [mul_comm R (mul_el R a hb) hc, mul_comm R hb hc]
 unfold mul
 exact act_act ..
theorem mul_add (a b c : R.V) : R.mul a (R.vadd b c) = R.vadd (R.mul a b) (R.mul a c) := act_add ..
theorem e0_el : R.El R.e0 := by
 intro j h
 have := R.hm
 unfold e0; rw [if_neg (by omega)]
theorem mul_one {a : R.V} (h : R.El a) : R.mul a R.e0 = a := mul_e0 R h
theorem mul_zero (a : R.V) : R.mul a R.vzero = R.vzero := act_zero ..
def hor (b a : R.V) : Nat → R.V      -- hor n: the value after n rounds from the top
 | 0 => R.vzero
 | n + 1 => R.vadd (R.T (hor b a n)) (R.smul (b (R.m - 1 - n)) a)
theorem hor_inv (b a : R.V) (n : Nat) (h : n ≤ R.m) : R.vadd (R.pw (R.m - n) (R.hor b a n)) (R.act (R.m - n) b a) = R.mul b a := by
 induction n with
 | zero => simp only [hor, Nat.sub_zero, pw_zero]; unfold mul; funext j; simp only [vadd, vzero]; grind
 | succ n ih =>
  rw [← ih (by omega), show R.m - n = (R.m - (n + 1)) + 1 by omega]
  simp only [hor, pw_add, pw_smul, act, pw_T]
  rw [show R.m - 1 - n = R.m - (n + 1) by omega]
  simp only [pw]
  funext j; simp only [vadd]; grind
theorem hor_m (b a : R.V) : R.hor b a R.m = R.mul b a := by
 have := hor_inv R b a R.m (Nat.le_refl _)
 rw [← this, Nat.sub_self]; funext j; simp only [vadd, pw, act, vzero]; grind
end Rg
end Go.Cw
namespace Go.Cw
namespace Rg
variable {p : Nat} [NeZero p] (R : Rg p)
def fp : Nat → Fin p := fun j => if j < R.m then R.md j else if j = R.m then 1 else 0
theorem act_congr (n : Nat) {b c : R.V} (h : ∀ i, i < n → b i = c i) (a : R.V) : R.act n b a = R.act n c a := by
 induction n with
 | zero => rfl
 | succ n ih => simp only [act]; rw [ih (fun i hi => h i (by omega)), h n (by omega)]
theorem act_more (n k : Nat) {b : R.V} (h : ∀ i, n ≤ i → b i = 0) (a : R.V) : R.act (n + k) b a = R.act n b a := by
 induction k with
 | zero => rfl
 | succ k ih =>
  rw [Nat.add_succ]; simp only [act]; rw [ih, h (n + k) (by omega)]
  funext j; simp only [vadd, smul]; grind
theorem pw_m_e0 : R.pw R.m R.e0 = R.vneg (fun j => if j < R.m then R.md j else 0) := by
 have hm := R.hm
 rw [show R.m = (R.m - 1) + 1 by omega]
 simp only [pw]; rw [show R.m - 1 + 1 = R.m by omega, pw_e0 R _ (by omega)]
 funext j; unfold T vneg; dsimp only
 rw [if_pos rfl]
 by_cases h : j < R.m
 ·rw [if_pos h, if_pos h]
  by_cases h2 : j = 0
  ·rw [if_pos h2]; grind
  ·rw [if_neg h2, if_neg (by omega)]; grind
 ·rw [if_neg h, if_neg h]; grind
theorem act_fp_e0 : R.act (R.m + 1) R.fp R.e0 = R.vzero := by
 simp only [act]
 rw [pw_m_e0, act_e0 R R.m _ (Nat.le_refl _)]
 funext j; unfold vadd smul vneg vzero fp; dsimp only
 by_cases h : j < R.m
 ·rw [if_pos h, if_pos h, if_neg (by omega), if_pos rfl, if_pos h]; grind
 ·rw [if_neg h, if_neg (by omega), if_pos rfl, if_neg h]; grind
def sub (d : Nat) (hd : 1 ≤ d) (g : Nat → Fin p) : Rg p := ⟨d, R.hp, hd, g⟩
structure Ideal (P : R.V → Prop) : Prop where
 el : ∀ a, P a → R.El a
 zero : P R.vzero
 add : ∀ a b, P a → P b → P (R.vadd a b)
 smul : ∀ s a, P a → P (R.smul s a)
 T : ∀ a, P a → P (R.T a)
theorem Ideal.pw {P : R.V → Prop} (h : R.Ideal P) (n : Nat) {a : R.V} (ha : P a) : P (R.pw n a) := by
 induction n with
 | zero => exact ha
 | succ n ih => exact h.T _ ih
theorem Ideal.act {P : R.V → Prop} (h : R.Ideal P) (n : Nat) (b : R.V) {a : R.V} (ha : P a) : P (R.act n b a) := by
 induction n with
 | zero => exact h.zero
 | succ n ih => exact h.add _ _ ih (h.smul _ _ (h.pw R n ha))
def PrimeF (p : Nat) [NeZero p] : Prop := ∀ s : Fin p, s ≠ 0 → ∃ t : Fin p, t * s = 1
theorem one_ne (R : Rg p) : (1 : Fin p) ≠ 0 := by
 intro h
 have h2 := congrArg Fin.val h
 have := R.hp
 simp at h2; omega
structure Least (P : R.V → Prop) (d : Nat) (g : R.V) : Prop where
 lt : d < R.m
 mem : P g
 top : g d = 1
 deg : ∀ j, d < j → g j = 0
 least : ∀ c, P c → (∀ j, d ≤ j → c j = 0) → c = R.vzero
theorem exists_least (hp : PrimeF p) {P : R.V → Prop} (h : R.Ideal P) : ∀ n : Nat, ∀ a, P a → a ≠ R.vzero → (∀ j, n ≤ j → a j = 0) → ∃ d g, R.Least P d g := by
 intro n
 induction n with
 | zero =>
  intro a _ h2 h3
  exact absurd (funext fun j => h3 j (by omega)) h2
 | succ n ih =>
  intro a h1 h2 h3
  by_cases hs : ∃ c, P c ∧ c ≠ R.vzero ∧ ∀ j, n ≤ j → c j = 0
  ·obtain ⟨c, hc1, hc2, hc3⟩ := hs
   exact ih c hc1 hc2 hc3
  ·have han : a n ≠ 0 := by
    intro h0
    apply hs
    refine ⟨a, h1, h2, fun j hj => ?_⟩
    by_cases hj2 : j = n
    ·rw [hj2]; exact h0
    ·exact h3 j (by omega)
   obtain ⟨t, ht⟩ := hp (a n) han
   refine ⟨n, R.smul t a, ?_, h.smul _ _ h1, ht, ?_, ?_⟩
   ·by_cases h5 : n < R.m
    ·exact h5
    ·exact absurd (h.el a h1 n (by omega)) han
   ·intro j hj; unfold Rg.smul; rw [h3 j (by omega)]; grind
   ·intro c hc hc2
    by_cases h6 : c = R.vzero
    ·exact h6
    ·exact absurd ⟨c, hc, h6, hc2⟩ hs
theorem T_diff {P : R.V → Prop} (_ : R.Ideal P) {d : Nat} {g : R.V} (hl : R.Least P d g) (hd : 1 ≤ d) (s : R.V) (hs : ∀ j, d ≤ j → s j = 0) :
  R.T s = R.vadd ((R.sub d hd g).T s) (R.smul (s (d - 1)) g) := by
 have h1 := hl.lt
 funext j
 show (if j < R.m then (if j = 0 then 0 else s (j - 1)) - s (R.m - 1) * R.md j else 0) =
  (if j < d then (if j = 0 then 0 else s (j - 1)) - s (d - 1) * g j else 0) + s (d - 1) * g j
 rw [hs (R.m - 1) (by omega)]
 by_cases h2 : j < d
 ·rw [if_pos h2, if_pos (by omega)]; grind
 ·rw [if_neg h2]
  by_cases h3 : j = d
  ·rw [h3, hl.top, if_pos (by omega), if_neg (by omega)]; grind
  ·rw [hl.deg j (by omega)]
   by_cases h4 : j < R.m
   ·rw [if_pos h4, if_neg (by omega), hs (j - 1) (by omega)]; grind
   ·rw [if_neg h4]; grind
theorem pw_diff {P : R.V → Prop} (h : R.Ideal P) {d : Nat} {g : R.V} (hl : R.Least P d g) (hd : 1 ≤ d) (n : Nat) :
  (∀ j, d ≤ j → (R.sub d hd g).pw n R.e0 j = 0) ∧ ∃ c, P c ∧ R.pw n R.e0 = R.vadd ((R.sub d hd g).pw n R.e0) c := by
 induction n with
 | zero =>
  refine ⟨fun j hj => ?_, R.vzero, h.zero, ?_⟩
  ·show (if j = 0 then (1 : Fin p) else 0) = 0
   rw [if_neg (by omega)]
  ·funext j; simp only [pw, vadd, vzero]; grind
 | succ n ih =>
  obtain ⟨h1, c, h2, h3⟩ := ih
  refine ⟨fun j hj => T_el (R.sub d hd g) _ j hj, ?_⟩
  have h4 := T_diff R h hl hd _ h1
  refine ⟨R.vadd (R.smul ((R.sub d hd g).pw n R.e0 (d - 1)) g) (R.T c), h.add _ _ (h.smul _ _ hl.mem) (h.T _ h2), ?_⟩
  show R.T (R.pw n R.e0) = R.vadd ((R.sub d hd g).T ((R.sub d hd g).pw n R.e0)) _
  rw [h3, T_add, h4]
  funext j; simp only [vadd]; grind
theorem act_diff {P : R.V → Prop} (h : R.Ideal P) {d : Nat} {g : R.V} (hl : R.Least P d g) (hd : 1 ≤ d) (b : R.V) (n : Nat) :
  (∀ j, d ≤ j → (R.sub d hd g).act n b R.e0 j = 0) ∧ ∃ c, P c ∧ R.act n b R.e0 = R.vadd ((R.sub d hd g).act n b R.e0) c := by
 induction n with
 | zero => exact ⟨fun j _ => rfl, R.vzero, h.zero, by funext j; show (0 : Fin p) = 0 + 0; grind⟩
 | succ n ih =>
  obtain ⟨h1, c, h2, h3⟩ := ih
  obtain ⟨k1, e, k2, k3⟩ := pw_diff R h hl hd n
  refine ⟨fun j hj => ?_, R.vadd c (R.smul (b n) e), h.add _ _ h2 (h.smul _ _ k2), ?_⟩
  ·show (R.sub d hd g).act n b R.e0 j + b n * (R.sub d hd g).pw n R.e0 j = 0
   rw [h1 j hj, k1 j hj]; grind
  ·show R.vadd (R.act n b R.e0) (R.smul (b n) (R.pw n R.e0)) = R.vadd (R.vadd ((R.sub d hd g).act n b R.e0) (R.smul (b n) ((R.sub d hd g).pw n R.e0))) _
   rw [h3, k3]
   funext j; simp only [vadd, smul]; grind
theorem least_divides {P : R.V → Prop} (h : R.Ideal P) {d : Nat} {g : R.V} (hl : R.Least P d g) (hd : 1 ≤ d) :
  (R.sub d hd g).act (R.m + 1) R.fp (R.sub d hd g).e0 = (R.sub d hd g).vzero := by
 obtain ⟨h1, c, h2, h3⟩ := act_diff R h hl hd R.fp (R.m + 1)
 rw [act_fp_e0] at h3
 have h4 : (R.sub d hd g).act (R.m + 1) R.fp R.e0 = R.smul (-1) c := by
  funext j
  have := congrFun h3 j
  have h5 : (0 : Fin p) = (R.sub d hd g).act (R.m + 1) R.fp R.e0 j + c j := this
  show (R.sub d hd g).act (R.m + 1) R.fp R.e0 j = (-1 : Fin p) * c j
  generalize (R.sub d hd g).act (R.m + 1) R.fp R.e0 j = z at h5 ⊢
  grind
 have h6 : P ((R.sub d hd g).act (R.m + 1) R.fp R.e0) := by rw [h4]; exact h.smul _ _ h2
 exact hl.least _ h6 h1
theorem multiple {P : R.V → Prop} (h : R.Ideal P) {d : Nat} {g : R.V} (hl : R.Least P d g) (n : Nat) : d + n ≤ R.m → ∀ c, P c → (∀ j, d + n ≤ j → c j = 0) → ∃ k : R.V, c = R.act n k g := by
 have hlow : ∀ i, d + i < R.m → (∀ j, d + i < j → R.pw i g j = 0) ∧ R.pw i g (d + i) = 1 := by
  intro i
  induction i with
  | zero => intro _; exact ⟨fun j hj => hl.deg j hj, hl.top⟩
  | succ i ih =>
   intro hi
   obtain ⟨h1, h2⟩ := ih (by omega)
   constructor
   ·intro j hj
    show (if j < R.m then (if j = 0 then 0 else R.pw i g (j - 1)) - R.pw i g (R.m - 1) * R.md j else 0) = 0
    by_cases h4 : j < R.m
    ·rw [if_pos h4, if_neg (by omega), h1 (j - 1) (by omega), h1 (R.m - 1) (by omega)]; grind
    ·rw [if_neg h4]
   ·show (if d + (i + 1) < R.m then (if d + (i + 1) = 0 then 0 else R.pw i g (d + (i + 1) - 1)) - R.pw i g (R.m - 1) * R.md (d + (i + 1)) else 0) = 1
    rw [if_pos hi, if_neg (by omega), show d + (i + 1) - 1 = d + i by omega, h2, h1 (R.m - 1) (by omega)]; grind
 induction n with
 | zero => intro _ c hc h2; exact ⟨R.vzero, by rw [hl.least c hc h2]; rfl⟩
 | succ n ih =>
  intro hn c hc h2
  obtain ⟨h3, h4⟩ := hlow n (by omega)
  obtain ⟨k, hk⟩ := ih (by omega) (R.vadd c (R.smul (- c (d + n)) (R.pw n g))) (h.add _ _ hc (h.smul _ _ (h.pw R n hl.mem))) (by
   intro j hj
   show c j + - c (d + n) * R.pw n g j = 0
   by_cases h5 : j = d + n
   ·rw [h5, h4]; grind
   ·rw [h2 j (by omega), h3 j (by omega)]; grind)
  refine ⟨fun i => if i = n then c (d + n) else k i, ?_⟩
  simp only [act]
  rw [if_pos trivial, act_congr R n (b := fun i => if i = n then c (d + n) else k i) (c := k) (fun i hi => if_neg (by omega)), ← hk]
  funext j; simp only [vadd, smul]; grind
def Irr : Prop := ∀ d (hd : 1 ≤ d) g, 2 * d ≤ R.m → (R.sub d hd g).act (R.m + 1) R.fp (R.sub d hd g).e0 ≠ (R.sub d hd g).vzero
theorem mul_zero_left (a : R.V) : R.mul R.vzero a = R.vzero := by
 unfold mul
 generalize R.m = n
 induction n with
 | zero => rfl
 | succ n ih => simp only [act]; rw [ih]; funext j; simp only [vadd, smul, vzero]; grind
theorem act_vadd (n : Nat) (b c a : R.V) : R.act n (R.vadd b c) a = R.vadd (R.act n b a) (R.act n c a) := by
 induction n with
 | zero => funext j; simp only [act, vadd, vzero]; grind
 | succ n ih => simp only [act]; rw [ih]; funext j; simp only [vadd, smul]; grind
theorem act_vsmul (n : Nat) (s : Fin p) (c a : R.V) : R.act n (R.smul s c) a = R.smul s (R.act n c a) := by
 induction n with
 | zero => funext j; simp only [act, smul, vzero]; grind
 | succ n ih => simp only [act]; rw [ih]; funext j; simp only [vadd, smul]; grind
theorem mul_T {b a : R.V} (hb : R.El b) (ha : R.El a) : R.mul (R.T b) a = R.T (R.mul b a) := by
 rw [mul_comm R (T_el R b) ha, mul_comm R hb ha]
 exact (T_act R R.m a b).symm
theorem vadd_el {a b : R.V} (ha : R.El a) (hb : R.El b) : R.El (R.vadd a b) := by
 intro j hj; unfold vadd; rw [ha j hj, hb j hj]; grind
theorem smul_el (s : Fin p) {a : R.V} (ha : R.El a) : R.El (R.smul s a) := by
 intro j hj; unfold smul; rw [ha j hj]; grind
theorem ideal_of {a : R.V} (ha : R.El a) : R.Ideal (fun c => ∃ b, R.El b ∧ c = R.mul b a) where
 el := by rintro _ ⟨b, _, rfl⟩; exact mul_el R b ha
 zero := ⟨R.vzero, fun _ _ => rfl, (mul_zero_left R a).symm⟩
 add := by rintro _ _ ⟨b, hb, rfl⟩ ⟨c, hc, rfl⟩; exact ⟨_, vadd_el R hb hc, (act_vadd ..).symm⟩
 smul := by rintro s _ ⟨b, hb, rfl⟩; exact ⟨_, smul_el R s hb, (act_vsmul ..).symm⟩
 T := by rintro _ ⟨b, hb, rfl⟩; exact ⟨_, T_el R b, (mul_T R hb ha).symm⟩
theorem ideal_ann {g : R.V} (hg : R.El g) : R.Ideal (fun c => R.El c ∧ R.mul c g = R.vzero) where
 el := fun _ h => h.1
 zero := ⟨fun _ _ => rfl, mul_zero_left R g⟩
 add := by
  rintro a b ⟨ha, ha2⟩ ⟨hb, hb2⟩
  refine ⟨vadd_el R ha hb, ?_⟩
  have : R.mul (R.vadd a b) g = R.vadd (R.mul a g) (R.mul b g) := act_vadd ..
  rw [this, ha2, hb2]; funext j; simp only [vadd, vzero]; grind
 smul := by
  rintro s a ⟨ha, ha2⟩
  refine ⟨smul_el R s ha, ?_⟩
  have : R.mul (R.smul s a) g = R.smul s (R.mul a g) := act_vsmul ..
  rw [this, ha2, smul_zero]
 T := by
  rintro a ⟨ha, ha2⟩
  refine ⟨T_el R a, ?_⟩
  rw [mul_T R ha hg, ha2, T_zero]
theorem inverse (hp : PrimeF p) (hi : R.Irr) {a : R.V} (ha : R.El a) (h0 : a ≠ R.vzero) : ∃ b, R.El b ∧ R.mul b a = R.e0 := by
 have hI := ideal_of R ha
 obtain ⟨d, g, hl⟩ := exists_least R hp hI R.m a ⟨R.e0, e0_el R, by rw [mul_comm R (e0_el R) ha, mul_one R ha]⟩ h0 ha
 by_cases hd : d = 0
 ·obtain ⟨b, hb, hb2⟩ := hl.mem
  refine ⟨b, hb, ?_⟩
  rw [← hb2]; funext j; unfold e0
  by_cases hj : j = 0
  ·rw [if_pos hj, hj]; have := hl.top; rw [hd] at this; exact this
  ·rw [if_neg hj]; exact hl.deg j (by omega)
 ·have hd1 : 1 ≤ d := by omega
  have hlt := hl.lt
  have h1 := least_divides R hI hl hd1
  have h2 : ¬ 2 * d ≤ R.m := fun h => hi d hd1 g h h1
  have hgel := hI.el g hl.mem
  obtain ⟨k, hk⟩ := multiple R hI hl (R.m - d) (by omega) (R.pw (R.m - d) g) (hI.pw R _ hl.mem) (by
   intro j hj; exact pw_el R _ hgel j (by omega))
  have hh : ∃ h : R.V, R.El h ∧ h (R.m - d) = 1 ∧ (∀ j, R.m - d < j → h j = 0) ∧ R.mul h g = R.vzero := by
   refine ⟨fun j => if j < R.m - d then - k j else if j = R.m - d then 1 else 0, ?_, ?_, ?_, ?_⟩
   ·intro j hj; dsimp only; rw [if_neg (by omega), if_neg (by omega)]
   ·dsimp only; rw [if_neg (by omega), if_pos rfl]
   ·intro j hj; dsimp only; rw [if_neg (by omega), if_neg (by omega)]
   ·unfold mul
    conv => lhs; rw [show R.m = (R.m - d + 1) + (d - 1) by omega]
    rw [act_more R (R.m - d + 1) (d - 1) (by intro i hi; rw [if_neg (by omega), if_neg (by omega)])]
    simp only [act]
    rw [if_neg (by omega), if_pos (by omega)]
    rw [act_congr R (R.m - d) (c := R.smul (-1) k) (fun i hi => by unfold smul; rw [if_pos (by omega)]; grind), act_vsmul, ← hk]
    funext j; simp only [vadd, smul, vzero]; grind
  obtain ⟨h, hel, htop, hdeg, hmul⟩ := hh
  have hJ := ideal_ann R hgel
  have hh0 : h ≠ R.vzero := by
   intro h5
   rw [h5] at htop
   exact one_ne R htop.symm
  obtain ⟨d2, g2, hl2⟩ := exists_least R hp hJ R.m h ⟨hel, hmul⟩ hh0 hel
  have h3 : d2 ≤ R.m - d := by
   by_cases h4 : d2 ≤ R.m - d
   ·exact h4
   ·exact absurd (hl2.least h ⟨hel, hmul⟩ (fun j hj => hdeg j (by omega))) hh0
  by_cases h4 : d2 = 0
  ·have h5 : g2 = R.e0 := by
    funext j; unfold e0
    by_cases hj : j = 0
    ·rw [if_pos hj, hj]; have := hl2.top; rw [h4] at this; exact this
    ·rw [if_neg hj]; exact hl2.deg j (by omega)
   have h6 := hl2.mem.2
   rw [h5, mul_comm R (e0_el R) hgel, mul_one R hgel] at h6
   have := hl.top
   rw [h6] at this
   exact absurd this.symm (one_ne R)
  ·exact absurd (least_divides R hJ hl2 (by omega)) (hi d2 (by omega) g2 (by omega))
end Rg
end Go.Cw
namespace Go.Cw
namespace Rg
variable {p : Nat} [NeZero p] (R : Rg p)
def IsField : Prop := ∀ a, R.El a → a ≠ R.vzero → ∃ b, R.El b ∧ R.mul b a = R.e0
def phi (S : Rg p) (a : R.V) : S.V := S.act R.m a S.e0
theorem phi_add (S : Rg p) (a b : R.V) : R.phi S (R.vadd a b) = S.vadd (R.phi S a) (R.phi S b) := act_vadd ..
theorem phi_smul (S : Rg p) (s : Fin p) (a : R.V) : R.phi S (R.smul s a) = S.smul s (R.phi S a) := act_vsmul ..
theorem act_split (S : Rg p) (n : Nat) (a : S.V) (z : S.V) : S.act (n + 1) a z = S.vadd (S.smul (a 0) z) (S.T (S.act n (fun i => a (i + 1)) z)) := by
 induction n with
 | zero => simp only [act, pw, T_zero]; funext j; simp only [vadd, vzero]; grind
 | succ n ih =>
  rw [act, ih]
  simp only [act, T_add, T_smul, pw]
  funext j; simp only [vadd]; grind
theorem phi_T (S : Rg p) (h : S.act (R.m + 1) R.fp S.e0 = S.vzero) (a : R.V) : R.phi S (R.T a) = S.T (R.phi S a) := by
 have hm := R.hm
 have h1 : R.phi S (R.T a) = S.vadd (S.act R.m (fun j => if j = 0 then 0 else a (j - 1)) S.e0) (S.smul (- a (R.m - 1)) (S.act R.m R.md S.e0)) := by
  unfold phi
  rw [← act_vsmul, ← act_vadd]
  apply act_congr
  intro i hi
  unfold T; rw [if_pos hi]; simp only [vadd, smul]; grind
 have h2 : S.T (R.phi S a) = S.act (R.m + 1) (fun j => if j = 0 then 0 else a (j - 1)) S.e0 := by
  rw [act_split]
  unfold phi
  simp only [if_neg (Nat.succ_ne_zero _), Nat.add_sub_cancel]
  funext j; simp only [vadd, smul, if_pos]; grind
 have h3 : S.vadd (S.act R.m R.md S.e0) (S.pw R.m S.e0) = S.vzero := by
  rw [← h]
  simp only [act]
  have h4 : R.fp R.m = 1 := by unfold fp; rw [if_neg (by omega), if_pos rfl]
  have h5 : S.act R.m R.fp S.e0 = S.act R.m R.md S.e0 := act_congr S _ (fun i hi => by unfold fp; rw [if_pos hi]) _
  rw [h4, h5]; funext j; simp only [vadd, smul]; grind
 rw [h1, h2]
 simp only [act]
 rw [if_neg (by omega)]
 funext j
 have h6 := congrFun h3 j
 simp only [vadd, smul, vzero] at h6 ⊢
 grind
theorem phi_pw (S : Rg p) (h : S.act (R.m + 1) R.fp S.e0 = S.vzero) (n : Nat) (a : R.V) : R.phi S (R.pw n a) = S.pw n (R.phi S a) := by
 induction n with
 | zero => rfl
 | succ n ih => simp only [pw]; rw [phi_T R S h, ih]
theorem phi_zero (S : Rg p) : R.phi S R.vzero = S.vzero := by
 have := phi_smul R S 0 R.vzero
 have h2 : R.smul 0 R.vzero = R.vzero := smul_zero R 0
 rw [h2] at this
 rw [this]; funext j; simp only [smul, vzero]; grind
theorem phi_act (S : Rg p) (h : S.act (R.m + 1) R.fp S.e0 = S.vzero) (n : Nat) (b a : R.V) : R.phi S (R.act n b a) = S.act n b (R.phi S a) := by
 induction n with
 | zero => exact phi_zero R S
 | succ n ih => simp only [act]; rw [phi_add, phi_smul, phi_pw R S h, ih]
theorem phi_e0 (S : Rg p) : R.phi S R.e0 = S.e0 := by
 have hm := R.hm
 unfold phi
 rw [show R.m = 1 + (R.m - 1) by omega, act_more S 1 (R.m - 1) (fun i hi => by unfold e0; rw [if_neg (by omega)])]
 funext j; simp only [act, pw, vadd, vzero, smul]; unfold e0; grind
theorem phi_mul (S : Rg p) (h : S.act (R.m + 1) R.fp S.e0 = S.vzero) (b a : R.V) : R.phi S (R.mul b a) = S.mul (R.phi S b) (R.phi S a) := by
 unfold mul
 rw [phi_act R S h]
 have h1 : S.El (R.phi S b) := act_el S _ _ (e0_el S)
 have h2 : S.El (R.phi S a) := act_el S _ _ (e0_el S)
 have h3 := mul_comm S h1 h2
 unfold mul at h3
 rw [h3]
 conv => rhs; rw [show R.phi S b = S.act R.m b S.e0 from rfl, act_act]
 have h4 := mul_one S h2
 unfold mul at h4
 rw [h4]
theorem irr_of_field (hf : R.IsField) : R.Irr := by
 intro d hd g h2 h
 have hm := R.hm
 generalize hS : R.sub d hd g = S at h
 have hSm : S.m = d := by rw [← hS]; rfl
 have hel : R.El (S.fp) := by
  intro j hj; unfold fp; rw [if_neg (by omega), if_neg (by omega)]
 have hne : S.fp ≠ R.vzero := by
  intro h5
  have := congrFun h5 S.m
  unfold fp at this
  rw [if_neg (by omega), if_pos rfl] at this
  exact one_ne R this
 obtain ⟨b, hb, hb2⟩ := hf _ hel hne
 have h6 : R.phi S (S.fp) = S.vzero := by
  unfold phi
  rw [show R.m = S.m + 1 + (R.m - S.m - 1) by omega, act_more S (S.m + 1) _ (fun i hi => by unfold fp; rw [if_neg (by omega), if_neg (by omega)])]
  exact act_fp_e0 S
 have h7 := phi_mul R S h b (S.fp)
 rw [hb2, phi_e0, h6] at h7
 have h8 : S.mul (R.phi S b) S.vzero = S.vzero := mul_zero S _
 rw [h8] at h7
 have h9 := congrFun h7 0
 unfold e0 vzero at h9
 rw [if_pos rfl] at h9
 exact one_ne R h9
theorem primeF_of {p : Nat} [NeZero p] (h2 : 2 ≤ p) (h : ∀ d, 2 ≤ d → d < p → p % d ≠ 0) : PrimeF p := by
 have key : ∀ n : Nat, ∀ s : Fin p, s.val ≤ n → s ≠ 0 → ∃ t : Fin p, t * s = 1 := by
  intro n
  induction n with
  | zero => intro s hs h0; exact absurd (Fin.ext (by show s.val = 0 % p; rw [Nat.zero_mod]; omega)) h0
  | succ n ih =>
   intro s hs h0
   have hs0 : s.val ≠ 0 := fun h => h0 (Fin.ext (by show s.val = 0 % p; rw [Nat.zero_mod]; omega))
   by_cases h1 : s.val = 1
   ·refine ⟨1, ?_⟩
    have : s = 1 := Fin.ext (by show s.val = 1 % p; rw [Nat.mod_eq_of_lt (show 1 < p by omega)]; omega)
    rw [this]; grind
   ·have hlt := s.isLt
    have hr := h s.val (by omega) hlt
    have hr2 := Nat.mod_lt p (show 0 < s.val by omega)
    obtain ⟨t, ht⟩ := ih ⟨p % s.val, by omega⟩ (by show p % s.val ≤ n; omega) (by
     intro h5; have h7 : p % s.val = 0 % p := congrArg Fin.val h5; rw [Nat.zero_mod] at h7; exact hr h7)
    refine ⟨t * (- Fin.ofNat p (p / s.val)), ?_⟩
    have h6 : (Fin.ofNat p (p / s.val)) * s + ⟨p % s.val, by omega⟩ = (0 : Fin p) := by
     apply Fin.ext
     simp only [Fin.val_add, Fin.val_mul, Fin.ofNat, Nat.mod_add_mod, Nat.mod_mul_mod]
     rw [show p / s.val * s.val + p % s.val = p by rw [Nat.mul_comm]; exact Nat.div_add_mod ..]
     simp
    generalize (Fin.ofNat p (p / s.val)) = k at h6 ⊢
    generalize (⟨p % s.val, by omega⟩ : Fin p) = r at h6 ht
    grind
 intro s hs
 exact key s.val s (Nat.le_refl _) hs
end Rg
end Go.Cw
namespace Go.Cw
namespace Rg
variable {p : Nat} [NeZero p] (R : Rg p)
def upd (c : Nat → Fin p) (k : Nat) (s : Fin p) : Nat → Fin p := fun j => if j = k then s else c j
theorem act_upd (n k : Nat) (c : Nat → Fin p) (s : Fin p) (a : R.V) (h : k < n) : R.act n (upd c k (c k + s)) a = R.vadd (R.act n c a) (R.smul s (R.pw k a)) := by
 induction n with
 | zero => omega
 | succ n ih =>
  simp only [act]
  by_cases hk : k = n
  ·subst hk
   rw [act_congr R k (b := upd c k (c k + s)) (c := c) (fun i hi => by unfold upd; rw [if_neg (by omega)])]
   unfold upd; rw [if_pos rfl]; funext j; simp only [vadd, smul]; grind
  ·rw [ih (by omega)]
   unfold upd; rw [if_neg (by omega)]; funext j; simp only [vadd, smul]; grind
theorem conv_step (a b c : Nat → Fin p) (i j : Nat) (hi : i < R.m) (hj : j < R.m)
  (h : R.act (2 * R.m - 1) c R.e0 = R.vadd (R.act i a (R.act R.m b R.e0)) (R.smul (a i) (R.pw i (R.act j b R.e0)))) :
  R.act (2 * R.m - 1) (upd c (i + j) (c (i + j) + a i * b j)) R.e0 = R.vadd (R.act i a (R.act R.m b R.e0)) (R.smul (a i) (R.pw i (R.act (j + 1) b R.e0))) := by
 rw [act_upd R _ _ _ _ _ (by omega), h]
 simp only [act, pw_add, pw_smul, pw_pw]
 funext l; simp only [vadd, smul]; grind
theorem conv_row (a b c : Nat → Fin p) (i : Nat)
  (h : R.act (2 * R.m - 1) c R.e0 = R.vadd (R.act i a (R.act R.m b R.e0)) (R.smul (a i) (R.pw i (R.act R.m b R.e0)))) :
  R.act (2 * R.m - 1) c R.e0 = R.vadd (R.act (i + 1) a (R.act R.m b R.e0)) (R.smul (a (i + 1)) (R.pw (i + 1) (R.act 0 b R.e0))) := by
 rw [h]; simp only [act]
 rw [pw_zero, smul_zero]
 funext l; simp only [vadd, smul, vzero]; grind
theorem red_step (c : Nat → Fin p) (i j : Nat) (X : R.V) (hi : R.m ≤ i) (hj : j < R.m)
  (h : R.vadd (R.act i c R.e0) (R.smul (c i) (R.vadd (R.pw i R.e0) (R.pw (i - R.m) (R.act j R.md R.e0)))) = X) :
  R.vadd (R.act i (upd c (i - R.m + j) (c (i - R.m + j) + -(c i) * R.md j)) R.e0) (R.smul (c i) (R.vadd (R.pw i R.e0) (R.pw (i - R.m) (R.act (j + 1) R.md R.e0)))) = X := by
 rw [act_upd R _ _ _ _ _ (by omega), ← h]
 simp only [act, pw_add, pw_smul, pw_pw]
 funext l; simp only [vadd, smul]; grind
theorem red_start (c : Nat → Fin p) (i : Nat) (X : R.V) (h : R.act (i + 1) c R.e0 = X) :
  R.vadd (R.act i c R.e0) (R.smul (c i) (R.vadd (R.pw i R.e0) (R.pw (i - R.m) (R.act 0 R.md R.e0)))) = X := by
 rw [← h]; simp only [act, pw_zero]
 funext l; simp only [vadd, smul, vzero]; grind
theorem red_end (c : Nat → Fin p) (i : Nat) (X : R.V) (hi : R.m ≤ i) (h : R.vadd (R.act i c R.e0) (R.smul (c i) (R.vadd (R.pw i R.e0) (R.pw (i - R.m) (R.act R.m R.md R.e0)))) = X) :
  R.act i c R.e0 = X := by
 have h1 : R.pw i R.e0 = R.pw (i - R.m) (R.pw R.m R.e0) := by rw [pw_pw, Nat.sub_add_cancel hi]
 have h2 : R.vadd (R.pw R.m R.e0) (R.act R.m R.md R.e0) = R.vzero := by
  rw [pw_m_e0, act_e0 R R.m _ (Nat.le_refl _)]
  funext j; simp only [vadd, vneg, vzero]; grind
 rw [h1, ← pw_add, h2, pw_zero, smul_zero] at h
 rw [← h]; funext l; simp only [vadd, vzero]; grind
end Rg
end Go.Cw
namespace Go.Cw
class Fi (K : Type) extends Zero K, _root_.One K, Add K, Mul K, Neg K where
 inv : K → K
 add_assoc : ∀ a b c : K, a + b + c = a + (b + c)
 add_comm : ∀ a b : K, a + b = b + a
 zero_add : ∀ a : K, 0 + a = a
 neg_add : ∀ a : K, -a + a = 0
 mul_assoc : ∀ a b c : K, a * b * c = a * (b * c)
 mul_comm : ∀ a b : K, a * b = b * a
 one_mul : ∀ a : K, 1 * a = a
 mul_add : ∀ a b c : K, a * (b + c) = a * b + a * c
 one_ne : (1 : K) ≠ 0
 inv_mul : ∀ a : K, a ≠ 0 → inv a * a = 1
 inv_zero : inv 0 = 0
namespace Fi
variable {K : Type} [Fi K]
instance : Sub K := ⟨fun a b => a + -b⟩
theorem sub_eq (a b : K) : a - b = a + -b := rfl
theorem add_left_comm (a b c : K) : a + (b + c) = b + (a + c) := by rw [← add_assoc, add_comm a b, add_assoc]
theorem mul_left_comm (a b c : K) : a * (b * c) = b * (a * c) := by rw [← mul_assoc, mul_comm a b, mul_assoc]
theorem add_zero (a : K) : a + 0 = a := by rw [add_comm, zero_add]
theorem add_neg (a : K) : a + -a = 0 := by rw [add_comm, neg_add]
theorem mul_one (a : K) : a * 1 = a := by rw [mul_comm, one_mul]
theorem add_mul (a b c : K) : (a + b) * c = a * c + b * c := by rw [mul_comm, mul_add, mul_comm c a, mul_comm c b]
theorem add_left_cancel {a b c : K} (h : a + b = a + c) : b = c := by
 have := congrArg (-a + ·) h
 simp only [← add_assoc, neg_add, zero_add] at this; exact this
theorem add_neg_cancel_left (a b : K) : a + (-a + b) = b := by rw [← add_assoc, add_neg, zero_add]
theorem mul_zero (a : K) : a * 0 = 0 := by
 apply add_left_cancel (a := a * 0)
 rw [← mul_add, zero_add, add_zero]
theorem zero_mul (a : K) : 0 * a = 0 := by rw [mul_comm, mul_zero]
theorem neg_unique {a b : K} (h : a + b = 0) : b = -a := by
 apply add_left_cancel (a := a); rw [h, add_neg]
theorem mul_neg (a b : K) : a * -b = -(a * b) := neg_unique (by rw [← mul_add, add_neg, mul_zero])
theorem neg_mul (a b : K) : -a * b = -(a * b) := by rw [mul_comm, mul_neg, mul_comm]
theorem neg_neg (a : K) : - -a = a := (neg_unique (neg_add a)).symm
theorem neg_zero : -(0 : K) = 0 := (neg_unique (add_zero 0)).symm
theorem neg_add_rev (a b : K) : -(a + b) = -a + -b := (neg_unique (by
 rw [add_assoc, add_left_comm b, ← add_assoc a, add_neg, add_neg, zero_add])).symm
theorem sub_self (a : K) : a - a = 0 := add_neg a
theorem eq_of_sub {a b : K} (h : a - b = 0) : a = b := by
 have := neg_unique h
 have h2 := congrArg (fun x => - x) this
 simp only [neg_neg] at h2; exact h2.symm
theorem mul_inv {a : K} (h : a ≠ 0) : a * inv a = 1 := by rw [mul_comm, inv_mul a h]
theorem eq_zero_of_mul {a b : K} (h : a * b = 0) (ha : a ≠ 0) : b = 0 := by
 rw [← one_mul b, ← inv_mul a ha, mul_assoc, h, mul_zero]
theorem mul_ne {a b : K} (ha : a ≠ 0) (hb : b ≠ 0) : a * b ≠ 0 := fun h => hb (eq_zero_of_mul h ha)
theorem mul_left_cancel {a b c : K} (ha : a ≠ 0) (h : a * b = a * c) : b = c := by
 rw [← one_mul b, ← one_mul c, ← inv_mul a ha, mul_assoc, mul_assoc, h]
theorem inv_ne {a : K} (h : a ≠ 0) : inv a ≠ 0 := by
 intro h2; have := inv_mul a h; rw [h2, zero_mul] at this; exact one_ne this.symm
instance : Std.Associative (α := K) (· + ·) := ⟨add_assoc⟩
instance : Std.Commutative (α := K) (· + ·) := ⟨add_comm⟩
instance : Std.Associative (α := K) (· * ·) := ⟨mul_assoc⟩
instance : Std.Commutative (α := K) (· * ·) := ⟨mul_comm⟩
def ev : List K → K → K
 | [], _ => 0
 | c :: l, x => c + x * ev l x
def sy (r : K) : List K → List K
 | [] => []
 | [_] => []
 | _ :: d :: l => ev (d :: l) r :: sy r (d :: l)
theorem ev_sy (r x : K) : ∀ l : List K, ev l x - ev l r = (x - r) * ev (sy r l) x
 | [] => by simp only [ev, sy, sub_self, mul_zero]
 | [c] => by simp only [ev, sy, mul_zero, sub_self]
 | c :: d :: l => by
  have ih := ev_sy r x (d :: l)
  show c + x * ev (d :: l) x - (c + r * ev (d :: l) r) = (x - r) * (ev (d :: l) r + x * ev (sy r (d :: l)) x)
  generalize ev (d :: l) x = u at ih ⊢
  generalize ev (d :: l) r = v at ih ⊢
  rw [mul_add (x - r), mul_left_comm (x - r) x, ← ih]
  simp only [sub_eq, add_mul, mul_add, neg_mul, mul_neg, neg_add_rev]
  have h1 : c + x * u + (-c + -(r * v)) = c + -c + (x * u + -(r * v)) := by ac_rfl
  have h2 : x * v + -(r * v) + (x * u + -(x * v)) = x * v + -(x * v) + (x * u + -(r * v)) := by ac_rfl
  rw [h1, h2, add_neg, add_neg]
theorem sy_zero (r : K) : ∀ l : List K, (∀ y ∈ sy r l, y = 0) → ev l r = 0 → ∀ c ∈ l, c = 0
 | [], _, _ => by simp
 | [c], _, h => by
  simp only [ev, mul_zero, add_zero] at h
  simp [h]
 | c :: d :: l, h1, h2 => by
  have h3 : ev (d :: l) r = 0 := h1 _ (by simp [sy])
  have h4 := sy_zero r (d :: l) (fun y hy => h1 y (by simp [sy, hy])) h3
  rw [ev, h3, mul_zero, add_zero] at h2
  intro x hx
  rcases List.mem_cons.1 hx with h5 | h5
  ·rw [h5, h2]
  ·exact h4 x h5
theorem sy_length (r : K) : ∀ l : List K, (sy r l).length = l.length - 1
 | [] => rfl
 | [_] => rfl
 | c :: d :: l => by simp [sy, sy_length r (d :: l)]
theorem roots_lt (n : Nat) : ∀ l : List K, l.length ≤ n → (∃ c ∈ l, c ≠ 0) → ∀ rs : List K, rs.Nodup → (∀ r ∈ rs, ev l r = 0) → rs.length < l.length := by
 induction n with
 | zero =>
  intro l hl ⟨c, hc, _⟩
  have : l = [] := by cases l with
   | nil => rfl
   | cons => simp at hl
  rw [this] at hc; simp at hc
 | succ n ih =>
  intro l hl hc rs hnd hr
  have hpos : 0 < l.length := by obtain ⟨c, hc, _⟩ := hc; exact List.length_pos_of_mem hc
  match rs, hnd, hr with
  | [], _, _ => simpa using hpos
  | r :: rs, hnd, hr =>
   have h1 := hr r (by simp)
   have h2 := ih (sy r l) (by rw [sy_length]; omega) (by
    by_cases h : ∃ c ∈ sy r l, c ≠ 0
    ·exact h
    ·obtain ⟨c, hc1, hc2⟩ := hc
     exact absurd (sy_zero r l (fun y hy => by by_cases h5 : y = 0; exact h5; exact absurd ⟨y, hy, h5⟩ h) h1 c hc1) hc2) rs (List.nodup_cons.1 hnd).2 (by
    intro x hx
    have h3 := ev_sy r x l
    rw [hr x (by simp [hx]), h1, sub_self] at h3
    refine eq_zero_of_mul h3.symm ?_
    intro h4
    rw [eq_of_sub h4] at hx
    exact (List.nodup_cons.1 hnd).1 hx)
   rw [sy_length] at h2
   simp; omega
end Fi
end Go.Cw
namespace Go.Cw
namespace Fi
variable {K : Type} [Fi K]
def pow (a : K) : Nat → K
 | 0 => 1
 | n + 1 => pow a n * a
theorem pow_add (a : K) (m n : Nat) : pow a (m + n) = pow a m * pow a n := by
 induction n with
 | zero => simp only [Nat.add_zero, pow, mul_one]
 | succ n ih => rw [Nat.add_succ]; simp only [pow]; rw [ih, mul_assoc]
theorem pow_mul (a : K) (m n : Nat) : pow a (m * n) = pow (pow a m) n := by
 induction n with
 | zero => rfl
 | succ n ih => rw [Nat.mul_succ, pow_add, ih]; rfl
theorem one_pow (n : Nat) : pow (1 : K) n = 1 := by
 induction n with
 | zero => rfl
 | succ n ih => simp only [pow, ih, mul_one]
theorem mul_pow (a b : K) (n : Nat) : pow (a * b) n = pow a n * pow b n := by
 induction n with
 | zero => simp only [pow, mul_one]
 | succ n ih => simp only [pow, ih]; ac_rfl
theorem pow_ne {a : K} (h : a ≠ 0) (n : Nat) : pow a n ≠ 0 := by
 induction n with
 | zero => exact one_ne
 | succ n ih => exact mul_ne ih h
theorem pow_sub {a : K} (h : a ≠ 0) {m n : Nat} (hmn : m ≤ n) (he : pow a m = pow a n) : pow a (n - m) = 1 := by
 apply mul_left_cancel (pow_ne h m)
 rw [← pow_add, Nat.add_sub_cancel' hmn, mul_one, he]
structure Ord (a : K) (n : Nat) : Prop where
 pos : 0 < n
 one : pow a n = 1
 least : ∀ k, 0 < k → k < n → pow a k ≠ 1
theorem exists_ord {a : K} : ∀ n : Nat, 0 < n → pow a n = 1 → ∃ m, m ≤ n ∧ Ord a m := by
 intro n
 induction n using Nat.strongRecOn with
 | _ n ih =>
  intro h0 h1
  by_cases h : ∃ k, 0 < k ∧ k < n ∧ pow a k = 1
  ·obtain ⟨k, h2, h3, h4⟩ := h
   obtain ⟨m, h5, h6⟩ := ih k h3 h2 h4
   exact ⟨m, by omega, h6⟩
  ·exact ⟨n, Nat.le_refl _, h0, h1, fun k h2 h3 h4 => h ⟨k, h2, h3, h4⟩⟩
theorem pow_dvd {a : K} {n k : Nat} (h : pow a n = 1) (hk : n ∣ k) : pow a k = 1 := by
 obtain ⟨c, rfl⟩ := hk
 rw [pow_mul, h, one_pow]
theorem Ord.dvd {a : K} {n k : Nat} (h : Ord a n) (hk : pow a k = 1) : n ∣ k := by
 have h1 := Nat.div_add_mod k n
 have h2 : pow a (k % n) = 1 := by
  rw [← h1, pow_add, pow_dvd h.one ⟨_, rfl⟩, one_mul] at hk; exact hk
 by_cases h3 : k % n = 0
 ·exact Nat.dvd_of_mod_eq_zero h3
 ·exact absurd h2 (h.least _ (by omega) (Nat.mod_lt _ h.pos))
theorem ord_of {a : K} {n : Nat} (h0 : 0 < n) (h1 : pow a n = 1) (h2 : ∀ k, pow a k = 1 → n ∣ k) : Ord a n :=
 ⟨h0, h1, fun k hk hkn h => by have := Nat.le_of_dvd hk (h2 k h); omega⟩
theorem Ord.pow {a : K} {c d : Nat} (h : Ord a (c * d)) (hc : 0 < c) : Ord (Fi.pow a c) d := by
 have hd : 0 < d := Nat.pos_of_mul_pos_left h.pos 
 refine ord_of hd (by rw [← pow_mul, h.one]) fun k hk => ?_
 rw [← pow_mul] at hk
 exact Nat.dvd_of_mul_dvd_mul_left hc (h.dvd hk)
theorem Ord.mul {a b : K} {m n : Nat} (ha : Ord a m) (hb : Ord b n) (hc : Nat.Coprime m n) : Ord (a * b) (m * n) := by
 refine ord_of (Nat.mul_pos ha.pos hb.pos) ?_ fun k hk => ?_
 ·rw [mul_pow, pow_dvd ha.one ⟨n, rfl⟩, pow_dvd hb.one ⟨m, Nat.mul_comm ..⟩, mul_one]
 ·have h1 : Fi.pow a (k * n) = 1 := by
   have := congrArg (fun x => Fi.pow x n) hk
   simp only [← pow_mul, one_pow] at this
   rw [mul_pow, pow_dvd hb.one (Nat.dvd_mul_left n k), mul_one] at this; exact this
  have h2 : Fi.pow b (k * m) = 1 := by
   have := congrArg (fun x => Fi.pow x m) hk
   simp only [← pow_mul, one_pow] at this
   rw [mul_pow, pow_dvd ha.one (Nat.dvd_mul_left m k), one_mul] at this; exact this
  have h3 := hc.dvd_of_dvd_mul_right (ha.dvd h1)
  have h4 := hc.symm.dvd_of_dvd_mul_right (hb.dvd h2)
  exact hc.mul_dvd_of_dvd_of_dvd h3 h4
theorem strip (r : Nat) (hr : 2 ≤ r) : ∀ n : Nat, 0 < n → ∃ j c, n = r ^ j * c ∧ ¬ r ∣ c := by
 intro n
 induction n using Nat.strongRecOn with
 | _ n ih =>
  intro h0
  by_cases h : r ∣ n
  ·obtain ⟨c, rfl⟩ := h
   have hc : 0 < c := Nat.pos_of_mul_pos_left h0
   obtain ⟨j, e, h1, h2⟩ := ih c (by
    have := Nat.mul_le_mul_right c hr; omega) hc
   exact ⟨j + 1, e, by rw [h1, Nat.pow_succ]; ac_rfl, h2⟩
  ·exact ⟨0, n, by simp, h⟩
theorem least_factor (n : Nat) (h : 2 ≤ n) : ∃ r, 2 ≤ r ∧ r ∣ n ∧ ∀ d, d ∣ r → d = 1 ∨ d = r := by
 induction n using Nat.strongRecOn with
 | _ n ih =>
  by_cases hp : ∃ d, d ∣ n ∧ d ≠ 1 ∧ d ≠ n
  ·obtain ⟨d, h1, h2, h3⟩ := hp
   have h4 := Nat.le_of_dvd (by omega) h1
   have h5 : d ≠ 0 := by rintro rfl; simp at h1; omega
   obtain ⟨r, h6, h7, h8⟩ := ih d (by omega) (by omega)
   exact ⟨r, h6, Nat.dvd_trans h7 h1, h8⟩
  ·refine ⟨n, h, Nat.dvd_refl _, fun d hd => ?_⟩
   by_cases h1 : d = 1
   ·exact .inl h1
   ·by_cases h2 : d = n
    ·exact .inr h2
    ·exact absurd ⟨d, hd, h1, h2⟩ hp
theorem ord_more {a b : K} {m n : Nat} (ha : Ord a m) (hb : Ord b n) (h : ¬ n ∣ m) : ∃ c : K, ∃ k, Ord c k ∧ m < k := by
 have hg0 : 0 < Nat.gcd m n := Nat.gcd_pos_of_pos_left _ ha.pos
 obtain ⟨g, hg⟩ := Nat.gcd_dvd_right m n
 have hg1 : g ≠ 0 := by rintro rfl; have := hb.pos; omega
 have hg2 : g ≠ 1 := by
  rintro rfl; apply h; rw [hg, Nat.mul_one]; exact Nat.gcd_dvd_left m n
 obtain ⟨r, hr2, hrg, hrp⟩ := least_factor g (by omega)
 obtain ⟨j, c, hm, hc⟩ := strip r hr2 m ha.pos
 obtain ⟨e, d, hn, hd⟩ := strip r hr2 n hb.pos
 have hje : j < e := by
  by_cases hje : j < e
  ·exact hje
  ·have h1 : r ^ e ∣ m := by rw [hm]; exact Nat.dvd_mul_right_of_dvd (Nat.pow_dvd_pow r (by omega)) c
   have h2 : r ^ e ∣ n := by rw [hn]; exact ⟨d, rfl⟩
   obtain ⟨u, hu⟩ := Nat.dvd_gcd h1 h2
   have h3 : r ^ e * d = r ^ e * (u * g) := by rw [← hn, ← Nat.mul_assoc, ← hu]; exact hg
   have h4 := Nat.eq_of_mul_eq_mul_left (Nat.pow_pos (by omega)) h3
   exact absurd (by rw [h4]; exact Nat.dvd_mul_left_of_dvd hrg u) hd
 have hcop : Nat.Coprime c (r ^ e) := by
  apply Nat.Coprime.pow_right
  rcases hrp _ (Nat.gcd_dvd_right c r) with h1 | h1
  ·exact h1
  ·exact absurd (by rw [← h1]; exact Nat.gcd_dvd_left c r) hc
 have ha2 : Ord (Fi.pow a (r ^ j)) c := Ord.pow (by rw [← hm]; exact ha) (Nat.pow_pos (by omega))
 have hd0 : 0 < d := by
  rcases Nat.eq_zero_or_pos d with h1 | h1
  ·exact absurd (by rw [h1]; exact Nat.dvd_zero r) hd
  ·exact h1
 have hb2 : Ord (Fi.pow b d) (r ^ e) := Ord.pow (by rw [Nat.mul_comm, ← hn]; exact hb) hd0
 refine ⟨_, _, ha2.mul hb2 hcop, ?_⟩
 have h5 : r ^ j < r ^ e := Nat.pow_lt_pow_of_lt (by omega) hje
 have hc0 := ha2.pos
 rw [hm, Nat.mul_comm]
 exact Nat.mul_lt_mul_of_pos_left h5 hc0
end Fi
end Go.Cw
namespace Go.Cw
theorem nodup_le {α : Type} : ∀ (l r : List α), l.Nodup → (∀ x ∈ l, x ∈ r) → l.length ≤ r.length := by
 classical
 intro l
 induction l with
 | nil => intro r _ _; simp
 | cons x l ih =>
  intro r hn hs
  have h1 := ih (r.erase x) (List.nodup_cons.1 hn).2 (by
   intro y hy
   have hyx : y ≠ x := by rintro rfl; exact (List.nodup_cons.1 hn).1 hy
   exact (List.mem_erase_of_ne hyx).2 (hs y (by simp [hy])))
  have h2 := List.length_erase_of_mem (hs x (by simp))
  have h3 : 0 < r.length := List.length_pos_of_mem (hs x (by simp))
  simp; omega
namespace Fi
variable {K : Type} [Fi K]
theorem pow_inj {a : K} (h : a ≠ 0) {n : Nat} (ho : ∀ k, 0 < k → k < n → pow a k ≠ 1) : ((List.range n).map (pow a)).Nodup := by
 rw [List.nodup_iff_pairwise_ne, List.pairwise_map]
 refine List.Pairwise.imp_of_mem ?_ (List.pairwise_lt_range (n := n))
 intro i j hi hj hij he
 rw [List.mem_range] at hi hj
 exact ho (j - i) (by omega) (by omega) (pow_sub h (by omega) he)
theorem exists_pow_one {a : K} (h : a ≠ 0) (all : List K) (hall : ∀ x : K, x ≠ 0 → x ∈ all) : ∃ k, 0 < k ∧ pow a k = 1 := by
 by_cases hk : ∃ k, 0 < k ∧ pow a k = 1
 ·exact hk
 ·have h1 := pow_inj h (n := all.length + 1) (fun k h0 _ h1 => hk ⟨k, h0, h1⟩)
  have h2 := nodup_le _ all h1 (by
   intro x hx
   obtain ⟨k, _, rfl⟩ := List.mem_map.1 hx
   exact hall _ (pow_ne h k))
  simp at h2; omega
theorem ord_le {a : K} {n : Nat} (h : a ≠ 0) (ho : Ord a n) (all : List K) (hall : ∀ x : K, x ≠ 0 → x ∈ all) : n ≤ all.length := by
 have h2 := nodup_le _ all (pow_inj h ho.least) (by
  intro x hx
  obtain ⟨k, _, rfl⟩ := List.mem_map.1 hx
  exact hall _ (pow_ne h k))
 simpa using h2
theorem ev_pow (x : K) : ∀ n : Nat, ev (List.replicate n 0 ++ [1]) x = pow x n
 | 0 => by simp only [List.replicate, List.nil_append, ev, mul_zero, add_zero, pow]
 | n + 1 => by
  show 0 + x * ev (List.replicate n 0 ++ [1]) x = _
  rw [ev_pow x n, zero_add, mul_comm]; rfl
theorem ord_ne {a : K} {n : Nat} (ho : Ord a n) : a ≠ 0 := by
 rintro rfl
 have h1 := ho.one
 obtain ⟨m, rfl⟩ : ∃ m, n = m + 1 := ⟨n - 1, by have := ho.pos; omega⟩
 simp only [pow, mul_zero] at h1
 exact one_ne h1.symm
theorem cyclic (all : List K) (hnd : all.Nodup) (h0 : ∀ x ∈ all, x ≠ 0) (hall : ∀ x : K, x ≠ 0 → x ∈ all) : ∃ a : K, Ord a all.length := by
 have key : ∀ d n : Nat, all.length - n ≤ d → (∃ a : K, Ord a n) → ∃ a : K, Ord a all.length := by
  intro d
  induction d with
  | zero =>
   rintro n hn ⟨a, ha⟩
   have := ord_le (ord_ne ha) ha all hall
   exact ⟨a, by rw [show all.length = n by omega]; exact ha⟩
  | succ d ih =>
   rintro n hn ⟨a, ha⟩
   by_cases hb : ∃ b : K, ∃ m, Ord b m ∧ ¬ m ∣ n
   ·obtain ⟨b, m, hb, hm⟩ := hb
    obtain ⟨c, k, hc, hk⟩ := ord_more ha hb hm
    exact ih k (by have := ord_le (ord_ne hc) hc all hall; omega) ⟨c, hc⟩
   ·have hle := ord_le (ord_ne ha) ha all hall
    have hroots : ∀ x ∈ all, ev (-1 :: (List.replicate (n - 1) 0 ++ [1])) x = 0 := by
     intro x hx
     obtain ⟨k, hk0, hk1⟩ := exists_pow_one (h0 x hx) all hall
     obtain ⟨m, _, hm⟩ := exists_ord k hk0 hk1
     have hmn : m ∣ n := by
      by_cases h : m ∣ n
      ·exact h
      ·exact absurd ⟨x, m, hm, h⟩ hb
     rw [ev, ev_pow, mul_comm]
     have h1 : pow x (n - 1) * x = pow x n := by
      obtain ⟨q, rfl⟩ : ∃ q, n = q + 1 := ⟨n - 1, by have := ha.pos; omega⟩
      rfl
     rw [h1, pow_dvd hm.one hmn, neg_add]
    have h2 := roots_lt _ _ (Nat.le_refl _) ⟨1, by simp, one_ne⟩ all hnd hroots
    simp at h2
    have := ha.pos
    exact ⟨a, by rw [show all.length = n by omega]; exact ha⟩
 exact key _ 1 (Nat.le_refl _) ⟨1, by omega, one_pow 1, fun k h1 h2 => by omega⟩
end Fi
end Go.Cw
namespace Go.Cw
namespace Rg
variable {p : Nat} [NeZero p]
structure Kt (R : Rg p) (h : R.IsField) where
 v : R.V
 el : R.El v
theorem Kt.ext {R : Rg p} {h : R.IsField} {a b : Kt R h} (e : a.v = b.v) : a = b := by
 cases a; cases b; cases e; rfl
theorem vneg_el (R : Rg p) {a : R.V} (ha : R.El a) : R.El (R.vneg a) := by
 intro j hj; unfold vneg; rw [ha j hj]; grind
theorem vzero_el (R : Rg p) : R.El R.vzero := fun _ _ => rfl
open Classical in
noncomputable def Kt.inv {R : Rg p} {h : R.IsField} (a : Kt R h) : Kt R h :=
 if h0 : a.v = R.vzero then ⟨R.vzero, vzero_el R⟩ else ⟨(h a.v a.el h0).choose, (h a.v a.el h0).choose_spec.1⟩
noncomputable instance (R : Rg p) (h : R.IsField) : Fi (Kt R h) where
 zero := ⟨R.vzero, vzero_el R⟩
 one := ⟨R.e0, e0_el R⟩
 add a b := ⟨R.vadd a.v b.v, vadd_el R a.el b.el⟩
 mul a b := ⟨R.mul a.v b.v, mul_el R _ b.el⟩
 neg a := ⟨R.vneg a.v, vneg_el R a.el⟩
 inv := Kt.inv
 add_assoc a b c := Kt.ext (by funext j; show a.v j + b.v j + c.v j = a.v j + (b.v j + c.v j); grind)
 add_comm a b := Kt.ext (by funext j; show a.v j + b.v j = b.v j + a.v j; grind)
 zero_add a := Kt.ext (by funext j; show 0 + a.v j = a.v j; grind)
 neg_add a := Kt.ext (by funext j; show -a.v j + a.v j = 0; grind)
 mul_assoc a b c := Kt.ext (mul_assoc R a.el b.el c.el)
 mul_comm a b := Kt.ext (mul_comm R a.el b.el)
 one_mul a := Kt.ext (by show R.mul R.e0 a.v = a.v; rw [mul_comm R (e0_el R) a.el, mul_one R a.el])
 mul_add a b c := Kt.ext (mul_add R a.v b.v c.v)
 one_ne := by
  intro e
  have h1 := congrArg (fun a => a.v 0) e
  have h2 : R.e0 0 = R.vzero 0 := h1
  unfold e0 vzero at h2
  rw [if_pos rfl] at h2
  exact one_ne R h2
 inv_mul a ha := by
  have h0 : a.v ≠ R.vzero := fun e => ha (Kt.ext e)
  apply Kt.ext
  show R.mul (Kt.inv a).v a.v = R.e0
  unfold Kt.inv; rw [dif_neg h0]
  exact (h a.v a.el h0).choose_spec.2
 inv_zero := by
  show Kt.inv (⟨R.vzero, vzero_el R⟩ : Kt R h) = _
  unfold Kt.inv; rw [dif_pos rfl]; rfl
end Rg
end Go.Cw
namespace Go.Cw
structure Fld where
 P : Int
 M : Int
 mod : List Int
def ordS (p m : Int) : Int := if 2 ≤ p ∧ 1 ≤ m ∧ m ≤ 8 ∧ p ^ m.toNat ≤ 256 then p ^ m.toNat else 0
theorem pow_succ_toNat (p i : Int) (h : 0 ≤ i) : p ^ (i + 1).toNat = p ^ i.toNat * p := by
 rw [show (i + 1).toNat = i.toNat + 1 by omega, Int.pow_succ]
theorem pow_pos_of (p : Int) (h : 2 ≤ p) (n : Nat) : 1 ≤ p ^ n := by
 induction n with
 | zero => simp
 | succ n ih =>
  rw [Int.pow_succ]
  have := Int.mul_le_mul_of_nonneg_left (show 1 ≤ p by omega) (show 0 ≤ p ^ n by omega)
  rw [Int.mul_one] at this
  omega
theorem pow_mono_of (p : Int) (h : 2 ≤ p) {a b : Nat} (hab : a ≤ b) : p ^ a ≤ p ^ b := by
 obtain ⟨c, rfl⟩ := Nat.exists_eq_add_of_le hab
 rw [Int.pow_add]
 have h1 := pow_pos_of p h a
 have h2 := pow_pos_of p h c
 have := Int.mul_le_mul_of_nonneg_left h2 (show 0 ≤ p ^ a by omega)
 rw [Int.mul_one] at this
 exact this
theorem mul_small {a b : Int} (ha : 0 ≤ a) (ha2 : a ≤ 256) (hb : 0 ≤ b) (hb2 : b ≤ 256) : 0 ≤ a * b ∧ a * b ≤ 65536 := by
 refine ⟨Int.mul_nonneg ha hb, ?_⟩
 have := Int.mul_le_mul ha2 hb2 hb (show (0 : Int) ≤ 256 by omega)
 omega
theorem ordS_big (p m i : Int) (hp : 2 ≤ p) (h0 : 0 ≤ i) (hi : i < m) (hb : 256 < p ^ (i + 1).toNat) : ordS p m = 0 := by
 unfold ordS
 rw [if_neg]
 rintro ⟨_, _, _, h⟩
 have := pow_mono_of p hp (show (i + 1).toNat ≤ m.toNat by omega)
 omega
theorem ordS_bad (p m : Int) (h : p < 2 ∨ 256 < p ∨ m < 1 ∨ 8 < m) : ordS p m = 0 := by
 unfold ordS
 rw [if_neg]
 rintro ⟨h1, h2, h3, h4⟩
 have := pow_mono_of p h1 (show 1 ≤ m.toNat by omega)
 rw [Int.pow_one] at this
 omega
theorem ordS_ok (p m : Int) (h1 : 2 ≤ p) (h2 : 1 ≤ m) (h3 : m ≤ 8) (h4 : p ^ m.toNat ≤ 256) : ordS p m = p ^ m.toNat := by
 unfold ordS
 rw [if_pos ⟨h1, h2, h3, h4⟩]
theorem ordS_pos {p m : Int} (h : ordS p m ≠ 0) : 2 ≤ p ∧ p ≤ 256 ∧ 1 ≤ m ∧ m ≤ 8 ∧ ordS p m = p ^ m.toNat ∧ 2 ≤ ordS p m ∧ ordS p m ≤ 256 := by
 unfold ordS at h ⊢
 split at h
 ·rename_i h1
  rw [if_pos h1]
  have h2 := pow_mono_of p h1.1 (show 1 ≤ m.toNat by omega)
  rw [Int.pow_one] at h2
  omega
 ·omega
def noDiv (n : Int) : Prop := ∀ d : Int, 2 ≤ d → d < n → n % d ≠ 0
instance (n : Int) : Decidable (noDiv n) :=
 decidable_of_iff (∀ d : Nat, d < n.toNat → 2 ≤ d → n % (d : Int) ≠ 0) (by
  constructor
  ·intro h d h1 h2
   have := h d.toNat (by omega) (by omega)
   rwa [show ((d.toNat : Nat) : Int) = d by omega] at this
  ·intro h d h1 h2
   exact h d (by omega) (by omega))
def isPr (n : Int) : Bool := decide (2 ≤ n ∧ noDiv n)
theorem dd_le {d n : Int} (h1 : 2 ≤ d) (h2 : (d - 1) * (d - 1) ≤ n) (h3 : n ≤ 1000000) : d ≤ 1001 ∧ 0 ≤ d * d ∧ d * d ≤ 1002001 := by
 have hd : d ≤ 1001 := by
  by_cases h : d ≤ 1001
  ·exact h
  ·have := Int.mul_le_mul (show (1001 : Int) ≤ d - 1 by omega) (show (1001 : Int) ≤ d - 1 by omega) (by omega) (by omega)
   omega
 have := Int.mul_le_mul hd hd (by omega) (show (0 : Int) ≤ 1001 by omega)
 have h0 : 0 ≤ d * d := Int.mul_nonneg (by omega) (by omega)
 exact ⟨hd, h0, by omega⟩
theorem noDiv_of_root (n d : Int) (hn : 2 ≤ n) (hd : 2 ≤ d) (h : ∀ e : Int, 2 ≤ e → e < d → n % e ≠ 0) (hr : n < d * d) : noDiv n := by
 intro e h1 h2 h3
 by_cases he : e < d
 ·exact h e h1 he h3
 ·-- the other divisor is below d
  have hdvd : e ∣ n := Int.dvd_of_emod_eq_zero h3
  obtain ⟨c, hc⟩ := hdvd
  have hc0 : 0 < c := by
   by_cases h : 0 < c
   ·exact h
   ·have h5 : e * c ≤ e * 0 := Int.mul_le_mul_of_nonneg_left (by omega) (by omega)
    omega
  have hc1 : c ≠ 1 := by
   intro h; subst h; omega
  have hcd : c < d := by
   by_cases h : c < d
   ·exact h
   ·have h5 := Int.mul_le_mul (show d ≤ e by omega) (show d ≤ c by omega) (by omega) (by omega)
    omega
  have := h c (by omega) hcd
  apply this
  rw [hc]
  exact Int.mul_emod_left e c
def digS (p : Int) : Nat → Int → List Int
 | 0, _ => []
 | n + 1, x => x % p :: digS p n (x / p)
def valS (p : Int) : List Int → Int
 | [] => 0
 | d :: l => valS p l * p + d
theorem length_digS (p : Int) : ∀ (n : Nat) (x : Int), (digS p n x).length = n
 | 0, _ => rfl
 | n + 1, x => by simp [digS, length_digS p n]
end Go.Cw
namespace Go.Cw
section
variable {p : Nat}
def dv [NeZero p] (l : List Int) : Nat → Fin p := fun i => Fin.ofNat p (l.getD i 0).toNat
def dl (m : Nat) (v : Nat → Fin p) : List Int := (List.range m).map fun j => ((v j).val : Int)
theorem length_dl (m : Nat) (v : Nat → Fin p) : (dl m v).length = m := by simp [dl]
theorem getD_dl (m : Nat) (v : Nat → Fin p) (j : Nat) : (dl m v).getD j 0 = if j < m then ((v j).val : Int) else 0 := by
 unfold dl
 by_cases h : j < m
 ·rw [if_pos h]; simp [List.getD, h]
 ·rw [if_neg h]; simp [List.getD, h]
theorem dv_dl [NeZero p] (m : Nat) (v : Nat → Fin p) (h : ∀ j, m ≤ j → v j = 0) : dv (dl m v) = v := by
 funext j
 unfold dv; rw [getD_dl]
 by_cases hj : j < m
 ·rw [if_pos hj]; apply Fin.ext; show ((v j).val : Int).toNat % p = (v j).val
  rw [Int.toNat_natCast, Nat.mod_eq_of_lt (v j).isLt]
 ·rw [if_neg hj, h j (by omega)]; rfl
theorem dl_dv [NeZero p] (m : Nat) (l : List Int) (hl : l.length = m) (h : ∀ x ∈ l, 0 ≤ x ∧ x < p) : dl m (dv (p := p) l) = l := by
 apply List.ext_getElem (by rw [length_dl, hl])
 intro j h1 h2
 unfold dl dv
 simp only [List.getElem_map, List.getElem_range, Fin.ofNat, List.getD, List.getElem?_eq_getElem h2, Option.getD_some]
 have := h _ (List.getElem_mem h2)
 rw [Nat.mod_eq_of_lt (by omega)]; omega
end
theorem digS_mem (p : Int) (hp : 2 ≤ p) : ∀ (m : Nat) (x : Int), ∀ d ∈ digS p m x, 0 ≤ d ∧ d < p
 | 0, _, d, h => by simp [digS] at h
 | m + 1, x, d, h => by
  rcases List.mem_cons.1 h with h1 | h1
  ·rw [h1]; exact ⟨Int.emod_nonneg _ (by omega), Int.emod_lt_of_pos _ (by omega)⟩
  ·exact digS_mem p hp m _ d h1
theorem valS_digS (p : Int) (hp : 2 ≤ p) : ∀ (m : Nat) (x : Int), 0 ≤ x → x < p ^ m → valS p (digS p m x) = x
 | 0, x, h0, h1 => by simp [digS, valS] at *; omega
 | m + 1, x, h0, h1 => by
  have h2 : 0 ≤ x / p := Int.ediv_nonneg h0 (by omega)
  have h3 : x / p < p ^ m := by
   apply Int.ediv_lt_of_lt_mul (by omega); rw [Int.pow_succ] at h1; exact h1
  rw [digS, valS, valS_digS p hp m _ h2 h3, Int.mul_comm]; exact Int.mul_ediv_add_emod x p
theorem valS_bound (p : Int) (hp : 2 ≤ p) : ∀ l : List Int, (∀ d ∈ l, 0 ≤ d ∧ d < p) → 0 ≤ valS p l ∧ valS p l < p ^ l.length
 | [], _ => by simp [valS]
 | d :: l, h => by
  have h1 := valS_bound p hp l (fun x hx => h x (by simp [hx]))
  have h2 := h d (by simp)
  have h3 : 0 ≤ valS p l * p := Int.mul_nonneg h1.1 (by omega)
  have h4 : (valS p l + 1) * p ≤ p ^ l.length * p := Int.mul_le_mul_of_nonneg_right (by omega) (by omega)
  rw [Int.add_mul, Int.one_mul] at h4
  simp only [valS, List.length_cons, Int.pow_succ]; omega
theorem digS_valS (p : Int) (hp : 2 ≤ p) : ∀ l : List Int, (∀ d ∈ l, 0 ≤ d ∧ d < p) → digS p l.length (valS p l) = l
 | [], _ => rfl
 | d :: l, h => by
  have h2 := h d (by simp)
  have ih := digS_valS p hp l (fun x hx => h x (by simp [hx]))
  have h3 : (valS p l * p + d) % p = d := by rw [Int.add_comm, Int.add_mul_emod_self_right, Int.emod_eq_of_lt h2.1 h2.2]
  have h4 : (valS p l * p + d) / p = valS p l := by
   rw [Int.add_comm, Int.add_mul_ediv_right _ _ (by omega), Int.ediv_eq_zero_of_lt h2.1 h2.2]; omega
  simp only [valS, List.length_cons, digS]; rw [h3, h4, ih]
end Go.Cw
namespace Go.Cw
namespace Rg
variable {p : Nat} [NeZero p]
theorem dv_el (m : Nat) (l : List Int) (hl : l.length = m) (j : Nat) (hj : m ≤ j) : dv (p := p) l j = 0 := by
 unfold dv
 have : l.getD j 0 = 0 := by simp [List.getD, List.getElem?_eq_none (show l.length ≤ j by omega)]
 rw [this]; rfl
omit [NeZero p] in
theorem dl_mem (m : Nat) (v : Nat → Fin p) : ∀ d ∈ dl m v, 0 ≤ d ∧ d < (p : Int) := by
 intro d hd
 unfold dl at hd
 obtain ⟨j, _, rfl⟩ := List.mem_map.1 hd
 have := (v j).isLt
 omega
variable {R : Rg p} {h : R.IsField}
def Kt.of (x : Int) : Kt R h := ⟨dv (digS p R.m x), fun j hj => dv_el R.m _ (length_digS ..) j hj⟩
def Kt.code (a : Kt R h) : Int := valS p (dl R.m a.v)
theorem Kt.code_lt (a : Kt R h) : 0 ≤ a.code ∧ a.code < (p : Int) ^ R.m := by
 have hp := R.hp
 have := valS_bound p (by omega) (dl R.m a.v) (dl_mem _ _)
 rw [length_dl] at this; exact this
theorem Kt.code_of {x : Int} (h0 : 0 ≤ x) (h1 : x < (p : Int) ^ R.m) : (Kt.of x : Kt R h).code = x := by
 have hp := R.hp
 unfold Kt.code Kt.of
 dsimp only
 rw [dl_dv R.m _ (length_digS ..) (digS_mem p (by omega) _ _), valS_digS p (by omega) _ _ h0 h1]
theorem Kt.of_code (a : Kt R h) : Kt.of a.code = a := by
 have hp := R.hp
 apply Kt.ext
 unfold Kt.of Kt.code; dsimp only
 have := digS_valS p (by omega) (dl R.m a.v) (dl_mem _ _)
 rw [length_dl] at this
 rw [this]; exact dv_dl R.m _ a.el
theorem Kt.code_inj {a b : Kt R h} (e : a.code = b.code) : a = b := by rw [← Kt.of_code a, e, Kt.of_code]
end Rg
end Go.Cw
namespace Go.Cw
namespace Rg
variable {p : Nat} [NeZero p] (R : Rg p)
def elt (x : Int) : R.V := dv (digS p R.m x)
def num (v : R.V) : Int := valS p (dl R.m v)
theorem elt_el (x : Int) : R.El (R.elt x) := fun j hj => dv_el R.m _ (length_digS ..) j hj
omit [NeZero p] in
theorem num_lt (v : R.V) : 0 ≤ R.num v ∧ R.num v < (p : Int) ^ R.m := by
 have hp := R.hp
 have := valS_bound p (by omega) (dl R.m v) (dl_mem _ _)
 rw [length_dl] at this; exact this
theorem num_elt {x : Int} (h0 : 0 ≤ x) (h1 : x < (p : Int) ^ R.m) : R.num (R.elt x) = x := by
 have hp := R.hp
 unfold num elt
 rw [dl_dv R.m _ (length_digS ..) (digS_mem p (by omega) _ _), valS_digS p (by omega) _ _ h0 h1]
theorem elt_num {v : R.V} (hv : R.El v) : R.elt (R.num v) = v := by
 have hp := R.hp
 unfold elt num
 have := digS_valS p (by omega) (dl R.m v) (dl_mem _ _)
 rw [length_dl] at this
 rw [this]; exact dv_dl R.m _ hv
def mulc (x y : Int) : Int := R.num (R.mul (R.elt y) (R.elt x))
def addc (x y : Int) : Int := R.num (R.vadd (R.elt x) (R.elt y))
def negc (x : Int) : Int := R.num (R.vneg (R.elt x))
theorem elt_mulc (x y : Int) : R.elt (R.mulc x y) = R.mul (R.elt x) (R.elt y) := by
 unfold mulc; rw [elt_num R (mul_el R _ (elt_el R _)), mul_comm R (elt_el R _) (elt_el R _)]
theorem elt_addc (x y : Int) : R.elt (R.addc x y) = R.vadd (R.elt x) (R.elt y) := by
 unfold addc; rw [elt_num R (vadd_el R (elt_el R _) (elt_el R _))]
theorem elt_negc (x : Int) : R.elt (R.negc x) = R.vneg (R.elt x) := by
 unfold negc; rw [elt_num R (vneg_el R (elt_el R _))]
def powc (x : Int) : Nat → Int
 | 0 => R.num R.e0
 | n + 1 => R.mulc (powc x n) x
def pl (x : Int) (n : Nat) : List Int := (List.range n).map (R.powc x)
end Rg
end Go.Cw
namespace Go.Cw
namespace Rg
variable {p : Nat} [NeZero p] (R : Rg p)
omit [NeZero p] in
theorem digS_zero (q : Int) : ∀ n, digS q n 0 = List.replicate n 0
 | 0 => rfl
 | n + 1 => by simp [digS, digS_zero q n, List.replicate_succ]
theorem elt_zero : R.elt 0 = R.vzero := by
 unfold elt; rw [digS_zero]
 funext j; unfold dv vzero
 by_cases h : j < R.m
 ·simp [List.getD, h]
 ·simp [List.getD, h]
theorem elt_one : R.elt 1 = R.e0 := by
 have hp := R.hp
 have hm := R.hm
 unfold elt
 obtain ⟨n, hn⟩ : ∃ n, R.m = n + 1 := ⟨R.m - 1, by omega⟩
 rw [hn, digS, show (1 : Int) % p = 1 from Int.emod_eq_of_lt (by omega) (by omega), show (1 : Int) / p = 0 from Int.ediv_eq_zero_of_lt (by omega) (by omega), digS_zero]
 funext j; unfold dv e0
 cases j with
 | zero => rfl
 | succ j =>
  rw [if_neg (by omega)]
  by_cases h : j < n
  ·simp [List.getD, h]
  ·simp [List.getD, h]
theorem num_e0 : R.num R.e0 = 1 := by
 have hp := R.hp
 have hm := R.hm
 rw [← elt_one]
 refine num_elt R (by omega) ?_
 have h1 := pow_mono_of (p : Int) (by omega) hm
 rw [Int.pow_one] at h1; omega
theorem num_zero : R.num R.vzero = 0 := by
 have hp := R.hp
 have hm := R.hm
 rw [← elt_zero]
 refine num_elt R (by omega) ?_
 have h1 := pow_mono_of (p : Int) (by omega) hm
 rw [Int.pow_one] at h1; omega
end Rg
end Go.Cw
namespace Go.Cw
namespace Rg
variable {p : Nat} [NeZero p] (R : Rg p)
def card : Int := (p : Int) ^ R.m
theorem card_pos : 2 ≤ R.card := by
 have hp := R.hp
 have hm := R.hm
 have h1 := pow_mono_of (p : Int) (by omega) hm
 rw [Int.pow_one] at h1; unfold card; omega
theorem mulc_lt (x y : Int) : 0 ≤ R.mulc x y ∧ R.mulc x y < R.card := num_lt R _
theorem addc_lt (x y : Int) : 0 ≤ R.addc x y ∧ R.addc x y < R.card := num_lt R _
theorem negc_lt (x : Int) : 0 ≤ R.negc x ∧ R.negc x < R.card := num_lt R _
theorem powc_lt (x : Int) (n : Nat) : 0 ≤ R.powc x n ∧ R.powc x n < R.card := by
 cases n with
 | zero => exact num_lt R _
 | succ n => exact mulc_lt R _ _
theorem mulc_one_left {x : Int} (hx : 0 ≤ x) (hx2 : x < R.card) : R.mulc 1 x = x := by
 unfold mulc
 rw [elt_one, mul_one R (elt_el R x)]
 exact num_elt R hx hx2
theorem powc_zero (x : Int) : R.powc x 0 = 1 := num_e0 R
theorem powc_one {x : Int} (hx : 0 ≤ x) (hx2 : x < R.card) : R.powc x 1 = x := by
 show R.mulc (R.powc x 0) x = x
 rw [powc_zero, mulc_one_left R hx hx2]
theorem pl_succ (x : Int) (n : Nat) : R.pl x (n + 1) = R.pl x n ++ [R.powc x n] := by
 unfold pl; rw [List.range_succ, List.map_append]; rfl
theorem length_pl (x : Int) (n : Nat) : (R.pl x n).length = n := by simp [pl]
theorem mem_pl {x : Int} {n : Nat} {y : Int} : y ∈ R.pl x n ↔ ∃ k, k < n ∧ R.powc x k = y := by simp [pl]
theorem ix_pl (x : Int) {n : Nat} {k : Int} (h0 : 0 ≤ k) (h1 : k < n) : ix 0 (R.pl x n) k = R.powc x k.toNat := by
 have : k.toNat < n := by omega
 simp [ix, pl, List.getD, this]
def Halt (x : Int) (k : Nat) : Prop := R.powc x k = 0 ∨ R.powc x k ∈ R.pl x k
structure StopAt (x : Int) (k : Nat) : Prop where
 pos : 1 ≤ k
 halt : R.Halt x k
 min : ∀ j, 1 ≤ j → j < k → ¬ R.Halt x j
theorem StopAt.unique {x : Int} {k l : Nat} (h : R.StopAt x k) (g : R.StopAt x l) : k = l := by
 rcases Nat.lt_trichotomy k l with h1 | h1 | h1
 ·exact absurd h.halt (g.min k h.pos h1)
 ·exact h1
 ·exact absurd g.halt (h.min l g.pos h1)
noncomputable def stopK (x : Int) : Nat := Classical.epsilon (R.StopAt x)
theorem stopK_eq {x : Int} {k : Nat} (h : R.StopAt x k) : R.stopK x = k :=
 StopAt.unique R (Classical.epsilon_spec ⟨k, h⟩) h
theorem pl_good {x : Int} {k : Nat} (h : ∀ j, 1 ≤ j → j < k → ¬ R.Halt x j) : (R.pl x k).Nodup ∧ ∀ y ∈ R.pl x k, 1 ≤ y ∧ y < R.card := by
 induction k with
 | zero => simp [pl]
 | succ k ih =>
  obtain ⟨h1, h2⟩ := ih (fun j hj hk => h j hj (by omega))
  have h3 : R.powc x k ∉ R.pl x k ∧ R.powc x k ≠ 0 := by
   by_cases hk : k = 0
   ·subst hk
    rw [powc_zero]; simp [pl]
   ·have := h k (by omega) (by omega)
    unfold Halt at this
    simp only [not_or] at this
    exact ⟨this.2, this.1⟩
  rw [pl_succ]
  refine ⟨?_, fun y hy => ?_⟩
  ·rw [List.nodup_append]
   refine ⟨h1, by simp, fun a ha b hb => ?_⟩
   rw [List.mem_singleton] at hb
   rintro rfl
   rw [hb] at ha
   exact h3.1 ha
  ·rcases List.mem_append.1 hy with hy | hy
   ·exact h2 y hy
   ·rw [List.mem_singleton] at hy
    have := powc_lt R x k
    have := h3.2
    omega
theorem pl_short {x : Int} {k : Nat} (h : ∀ j, 1 ≤ j → j < k → ¬ R.Halt x j) : (k : Int) < R.card := by
 obtain ⟨h1, h2⟩ := pl_good R h
 have := nodup_lt_length (R.card - 1).toNat ((R.pl x k).map (· - 1)) (by
  rw [List.nodup_iff_pairwise_ne, List.pairwise_map]
  exact (List.nodup_iff_pairwise_ne.1 h1).imp (fun hab h => hab (by omega))) (fun y hy => by
   obtain ⟨z, hz, rfl⟩ := List.mem_map.1 hy
   have := h2 z hz
   omega)
 rw [List.length_map, length_pl] at this
 have := card_pos R
 omega
def Good (x : Int) : Prop := (R.stopK x : Int) = R.card - 1 ∧ R.powc x (R.card - 1).toNat = 1
structure IsGen (x : Int) : Prop where
 lo : 1 ≤ x
 hi : x < R.card
 good : R.Good x
 min : ∀ y, 1 ≤ y → y < x → ¬ R.Good y
noncomputable def gen : Int := Classical.epsilon R.IsGen
theorem IsGen.unique {x y : Int} (h : R.IsGen x) (g : R.IsGen y) : x = y := by
 rcases Int.lt_trichotomy x y with h1 | h1 | h1
 ·exact absurd h.good (g.min x h.lo h1)
 ·exact h1
 ·exact absurd g.good (h.min y g.lo h1)
theorem gen_eq {x : Int} (h : R.IsGen x) : R.gen = x := IsGen.unique R (Classical.epsilon_spec ⟨x, h⟩) h
def HasGen : Prop := ∃ x, 1 ≤ x ∧ x < R.card ∧ R.Good x
theorem gen_spec (h : R.HasGen) : R.IsGen R.gen := by
 apply Classical.epsilon_spec
 obtain ⟨x, h1, h2, h3⟩ := h
 have key : ∀ n : Nat, ∀ x : Int, x ≤ n → 1 ≤ x → x < R.card → R.Good x → ∃ y, R.IsGen y := by
  intro n
  induction n with
  | zero => intro x h1 h2; omega
  | succ n ih =>
   intro x h1 h2 h3 h4
   by_cases hy : ∃ y, 1 ≤ y ∧ y < x ∧ R.Good y
   ·obtain ⟨y, y1, y2, y3⟩ := hy
    exact ih y (by omega) y1 (by omega) y3
   ·exact ⟨x, h2, h3, h4, fun y y1 y2 y3 => hy ⟨y, y1, y2, y3⟩⟩
 exact key x.toNat x (by omega) h1 h2 h3
theorem good_all {x : Int} (h : R.Good x) (hk : ∀ j, 1 ≤ j → j < (R.card - 1).toNat → ¬ R.Halt x j) {y : Int} (h1 : 1 ≤ y) (h2 : y < R.card) : ∃ k, k < (R.card - 1).toNat ∧ R.powc x k = y := by
 obtain ⟨g1, g2⟩ := pl_good R hk
 by_cases hy : y ∈ R.pl x (R.card - 1).toNat
 ·exact (mem_pl R).1 hy
 ·have := nodup_lt_length (R.card - 1).toNat ((y :: R.pl x (R.card - 1).toNat).map (· - 1)) (by
   rw [List.nodup_iff_pairwise_ne, List.pairwise_map]
   exact (List.nodup_iff_pairwise_ne.1 (List.nodup_cons.2 ⟨hy, g1⟩)).imp (fun hab h => hab (by omega))) (fun z hz => by
    obtain ⟨u, hu, rfl⟩ := List.mem_map.1 hz
    rcases List.mem_cons.1 hu with hu | hu
    ·omega
    ·have := g2 u hu; omega)
  simp only [List.length_map, List.length_cons, length_pl] at this
  omega
end Rg
end Go.Cw
namespace Go.Cw
theorem fin_val_int {p : Nat} [NeZero p] {x : Int} (h0 : 0 ≤ x) (h1 : x < p) : (((Fin.ofNat p x.toNat).val : Nat) : Int) = x := by
 simp only [Fin.ofNat]
 rw [Nat.mod_eq_of_lt (by omega)]; omega
theorem fin_of_emod {p : Nat} [NeZero p] (x : Int) (h0 : 0 ≤ x) : Fin.ofNat p (x % p).toNat = Fin.ofNat p x.toNat := by
 apply Fin.ext
 simp only [Fin.ofNat]
 obtain ⟨n, rfl⟩ := Int.eq_ofNat_of_zero_le h0
 rw [show ((n : Int) % (p : Int)).toNat = n % p by omega, Nat.mod_mod]
 rfl
theorem fin_ofNat_add {p : Nat} [NeZero p] (a b : Nat) : Fin.ofNat p (a + b) = Fin.ofNat p a + Fin.ofNat p b := by
 apply Fin.ext
 simp [Fin.ofNat, Fin.val_add]
theorem fin_ofNat_mul {p : Nat} [NeZero p] (a b : Nat) : Fin.ofNat p (a * b) = Fin.ofNat p a * Fin.ofNat p b := by
 apply Fin.ext
 simp [Fin.ofNat, Fin.val_mul, Nat.mul_mod]
theorem fin_ofNat_self {p : Nat} [NeZero p] : Fin.ofNat p p = 0 := by
 apply Fin.ext
 simp [Fin.ofNat]
theorem fin_sub {p : Nat} [NeZero p] {t : Int} (h0 : 0 ≤ t) (h1 : t ≤ p) : Fin.ofNat p ((p : Int) - t).toNat = - Fin.ofNat p t.toNat := by
 have h : Fin.ofNat p (((p : Int) - t).toNat + t.toNat) = 0 := by
  rw [show ((p : Int) - t).toNat + t.toNat = p by omega]; exact fin_ofNat_self
 rw [fin_ofNat_add] at h
 generalize Fin.ofNat p ((p : Int) - t).toNat = u at h ⊢
 generalize Fin.ofNat p t.toNat = v at h ⊢
 grind
theorem toNat_add' {a b : Int} (h0 : 0 ≤ a) (h1 : 0 ≤ b) : (a + b).toNat = a.toNat + b.toNat := by omega
theorem toNat_mul' {a b : Int} (h0 : 0 ≤ a) (h1 : 0 ≤ b) : (a * b).toNat = a.toNat * b.toNat := by
 obtain ⟨n, rfl⟩ := Int.eq_ofNat_of_zero_le h0
 obtain ⟨m, rfl⟩ := Int.eq_ofNat_of_zero_le h1
 rw [← Int.natCast_mul, Int.toNat_natCast, Int.toNat_natCast, Int.toNat_natCast]
theorem fin_step {p : Nat} [NeZero p] {r c l : Int} (hr : 0 ≤ r) (hc : 0 ≤ c) (hc2 : c ≤ p) (hl : 0 ≤ l) :
  Fin.ofNat p ((r + ((p : Int) - c) * l) % p).toNat = Fin.ofNat p r.toNat + -(Fin.ofNat p c.toNat) * Fin.ofNat p l.toNat := by
 have h1 : 0 ≤ ((p : Int) - c) * l := Int.mul_nonneg (by omega) hl
 rw [fin_of_emod _ (by omega), toNat_add' hr h1, toNat_mul' (by omega) hl, fin_ofNat_add, fin_ofNat_mul, fin_sub hc hc2]
theorem fin_step2 {p : Nat} [NeZero p] {r a b : Int} (hr : 0 ≤ r) (ha : 0 ≤ a) (hb : 0 ≤ b) :
  Fin.ofNat p ((r + a * b) % p).toNat = Fin.ofNat p r.toNat + Fin.ofNat p a.toNat * Fin.ofNat p b.toNat := by
 have h1 : 0 ≤ a * b := Int.mul_nonneg ha hb
 rw [fin_of_emod _ (by omega), toNat_add' hr h1, toNat_mul' ha hb, fin_ofNat_add, fin_ofNat_mul]
theorem fin_step3 {p : Nat} [NeZero p] {r t l a b : Int} (hr : 0 ≤ r) (ht : 0 ≤ t) (ht2 : t ≤ p) (hl : 0 ≤ l) (ha : 0 ≤ a) (hb : 0 ≤ b) :
  Fin.ofNat p ((r + ((p : Int) - t) * l + b * a) % p).toNat = Fin.ofNat p r.toNat + -(Fin.ofNat p t.toNat) * Fin.ofNat p l.toNat + Fin.ofNat p b.toNat * Fin.ofNat p a.toNat := by
 have h1 : 0 ≤ ((p : Int) - t) * l := Int.mul_nonneg (by omega) hl
 have h2 : 0 ≤ b * a := Int.mul_nonneg hb ha
 rw [fin_of_emod _ (by omega), toNat_add' (by omega) h2, toNat_mul' hb ha, fin_ofNat_add, fin_ofNat_mul, toNat_add' hr h1, toNat_mul' (by omega) hl, fin_ofNat_add, fin_ofNat_mul, fin_sub ht ht2]
theorem dv_eq {p : Nat} [NeZero p] (l : List Int) (i : Int) (h0 : 0 ≤ i) : dv (p := p) l i.toNat = Fin.ofNat p (ix 0 l i).toNat := rfl
theorem dv_set {p : Nat} [NeZero p] (l : List Int) {k x : Int} (h0 : 0 ≤ k) (hk : k < l.length) : dv (p := p) (l.set k.toNat x) = Rg.upd (dv l) k.toNat (Fin.ofNat p x.toNat) := by
 funext j
 unfold dv Rg.upd
 have hk' : k.toNat < l.length := by omega
 by_cases h : j = k.toNat
 ·subst h; simp [List.getD, hk']
 ·rw [if_neg h]; simp [List.getD, List.getElem?_set_ne (Ne.symm h)]
theorem dv_range {p : Nat} [NeZero p] {l : List Int} (i : Int) (h0 : 0 ≤ i) (h1 : i < l.length) (h : ∀ x ∈ l, 0 ≤ x ∧ x < p) : ((dv (p := p) l i.toNat).val : Int) = ix 0 l i := by
 have := h _ (ix_mem 0 l h0 h1)
 exact fin_val_int this.1 this.2
theorem mem_set_range {l : List Int} {k : Nat} {x p : Int} (h : ∀ y ∈ l, 0 ≤ y ∧ y < p) (hx : 0 ≤ x ∧ x < p) : ∀ y ∈ l.set k x, 0 ≤ y ∧ y < p := by
 intro y hy
 rcases List.mem_or_eq_of_mem_set hy with h1 | h1
 ·exact h y h1
 ·rw [h1]; exact hx
def Fld.p (f : Fld) : Nat := max 2 f.P.toNat
instance (f : Fld) : NeZero f.p := ⟨by unfold Fld.p; omega⟩
def Fld.R (f : Fld) : Rg f.p := ⟨max 1 f.M.toNat, by unfold Fld.p; omega, by omega, if f.M = 1 then fun _ => 0 else dv f.mod⟩
def Fld.q (f : Fld) : Int := ordS f.P f.M
def modOk (f : Fld) : Prop := if f.M = 1 then (f.mod.length : Int) = 0 else (f.mod.length : Int) = f.M ∧ ∀ c ∈ f.mod, 0 ≤ c ∧ c < f.P
def Shape (f : Fld) : Prop := f.q ≠ 0 ∧ isPr f.P = true ∧ modOk f
namespace Shape
variable {f : Fld}
theorem bd (h : Shape f) : 2 ≤ f.P ∧ f.P ≤ 256 ∧ 1 ≤ f.M ∧ f.M ≤ 8 ∧ f.q = f.P ^ f.M.toNat ∧ 2 ≤ f.q ∧ f.q ≤ 256 := ordS_pos h.1
theorem pI (h : Shape f) : (f.p : Int) = f.P := by have := bd h; unfold Fld.p; omega
theorem mI (h : Shape f) : (f.R.m : Int) = f.M := by have := bd h; show ((max 1 f.M.toNat : Nat) : Int) = f.M; omega
theorem card (h : Shape f) : f.R.card = f.q := by
 have h1 := bd h
 unfold Rg.card
 rw [pI h, h1.2.2.2.2.1]
 congr 1
 have := mI h; omega
theorem mod_le (h : Shape f) : f.mod.length ≤ 8 := by
 have h1 := bd h
 have h2 := h.2.2
 unfold modOk at h2
 split at h2 <;> omega
theorem prime (h : Shape f) : Rg.PrimeF f.p := by
 have h1 := bd h
 have h2 := h.2.1
 unfold isPr at h2
 have h3 := of_decide_eq_true h2
 refine Rg.primeF_of (by unfold Fld.p; omega) fun d hd hd2 hm => ?_
 have h4 := pI h
 refine h3.2 (d : Int) (by omega) (by omega) ?_
 rw [← h4]; omega
end Shape
def FOk (f : Fld) : Prop := Shape f ∧ f.R.HasGen
namespace Rg
variable {p : Nat} [NeZero p] (R : Rg p)
theorem elt_powc_add (x : Int) (m n : Nat) : R.mul (R.elt (R.powc x m)) (R.elt (R.powc x n)) = R.elt (R.powc x (m + n)) := by
 induction n with
 | zero => show R.mul _ (R.elt (R.powc x 0)) = _; rw [powc_zero, elt_one, mul_one R (elt_el R _)]; rfl
 | succ n ih =>
  show R.mul _ (R.elt (R.mulc (R.powc x n) x)) = R.elt (R.mulc (R.powc x (m + n)) x)
  rw [elt_mulc, elt_mulc, ← ih, mul_assoc R (elt_el R _) (elt_el R _) (elt_el R _)]
theorem mulc_powc (x : Int) (m n : Nat) : R.mulc (R.powc x m) (R.powc x n) = R.powc x (m + n) := by
 have h1 := powc_lt R x (m + n)
 unfold mulc
 rw [mul_comm R (elt_el R _) (elt_el R _), elt_powc_add, num_elt R h1.1 h1.2]
theorem stop_exists (x : Int) : ∃ k, R.StopAt x k := by
 by_cases h4 : ∃ k, R.StopAt x k
 ·exact h4
 ·-- then it never stops
  have h5 : ∀ k : Nat, ∀ j, 1 ≤ j → j < k → ¬ R.Halt x j := by
   intro k
   induction k with
   | zero => intro j _ h; omega
   | succ k ih =>
    intro j h1 h2 h6
    by_cases hj : j < k
    ·exact ih j h1 hj h6
    ·have : j = k := by omega
     subst this
     exact h4 ⟨j, h1, h6, ih⟩
  have := pl_short R (h5 (R.card.toNat + 1))
  have := card_pos R
  omega
theorem stopK_spec (x : Int) : R.StopAt x (R.stopK x) := Classical.epsilon_spec (stop_exists R x)
theorem gen_min (h : R.HasGen) : ∀ j, 1 ≤ j → j < (R.card - 1).toNat → ¬ R.Halt R.gen j := by
 have hg := gen_spec R h
 intro j h1 h2
 have h5 := hg.good.1
 exact (stopK_spec R R.gen).min j h1 (by omega)
theorem seen_zero (q : Int) (x : Int) : mapR (fun c => decide (c ∈ R.pl x 1)) q = (List.replicate q.toNat false).set 1 true := by
 rw [← mapR_const, show (1 : Nat) = (1 : Int).toNat from rfl, mapR_set _ (by omega)]
 apply mapR_congr
 intro i _ _
 have h1 : i ∈ R.pl x (1 : Int).toNat ↔ i = 1 := by
  rw [mem_pl]
  constructor
  ·rintro ⟨k, hk, rfl⟩
   have : k = 0 := by omega
   subst this; exact powc_zero R x
  ·rintro rfl; exact ⟨0, by decide, powc_zero R x⟩
 by_cases hi : i = 1
 ·rw [if_pos hi]; exact decide_eq_true (h1.2 hi)
 ·rw [if_neg hi]; exact decide_eq_false (fun h => hi (h1.1 h))
theorem seen_succ (q : Int) (x : Int) (k : Nat) : (mapR (fun c => decide (c ∈ R.pl x k)) q).set (R.powc x k).toNat true = mapR (fun c => decide (c ∈ R.pl x (k + 1))) q := by
 rw [mapR_set _ (powc_lt R x k).1]
 apply mapR_congr
 intro i _ _
 rw [pl_succ]
 by_cases hi : i = R.powc x k
 ·rw [if_pos hi]; exact (decide_eq_true (by rw [hi]; simp)).symm
 ·rw [if_neg hi]; exact decide_eq_decide.2 ⟨fun h => List.mem_append_left _ h, fun h => (List.mem_append.1 h).elim id (fun h => absurd (List.mem_singleton.1 h) hi)⟩
theorem field_of_gen (h : R.HasGen) : R.IsField := by
 have hg := gen_spec R h
 have hcp := card_pos R
 intro a ha h0
 have hn := num_lt R a
 have h1 : R.num a ≠ 0 := by
  intro he
  apply h0
  rw [← elt_num R ha, he, elt_zero]
 obtain ⟨k, hk, hk2⟩ := good_all R hg.good (gen_min R h) (y := R.num a) (by omega) hn.2
 refine ⟨R.elt (R.powc R.gen ((R.card - 1).toNat - k)), elt_el R _, ?_⟩
 rw [← elt_num R ha, ← hk2, elt_powc_add, show (R.card - 1).toNat - k + k = (R.card - 1).toNat by omega, hg.good.2, elt_one]
theorem pow_v {h : R.IsField} (a : Kt R h) (n : Nat) : (Fi.pow a n).v = R.elt (R.powc a.code n) := by
 induction n with
 | zero => show R.e0 = R.elt (R.num R.e0); rw [elt_num R (e0_el R)]
 | succ n ih =>
  show R.mul (Fi.pow a n).v a.v = R.elt (R.mulc (R.powc a.code n) a.code)
  rw [ih, elt_mulc]
  congr 1
  exact (elt_num R a.el).symm
theorem gen_of_field (h : R.IsField) : R.HasGen := by
 have hcp := card_pos R
 let all : List (Kt R h) := mapR (fun x => Kt.of (x + 1)) (R.card - 1)
 have hmem : ∀ a : Kt R h, a ∈ all ↔ a ≠ 0 := by
  intro a
  constructor
  ·intro ha hz
   obtain ⟨i, hi, rfl⟩ := List.mem_map.1 ha
   rw [List.mem_range] at hi
   have h1 := congrArg Kt.code hz
   rw [Kt.code_of (by omega) (by unfold card at *; omega)] at h1
   have h2 : Kt.code (0 : Kt R h) = 0 := num_zero R
   omega
  ·intro hz
   have h1 := Kt.code_lt a
   have h2 : a.code ≠ 0 := by
    intro he
    apply hz
    rw [← Kt.of_code a, he]
    exact Kt.ext (elt_zero R)
   refine List.mem_map.2 ⟨(a.code - 1).toNat, ?_, ?_⟩
   ·rw [List.mem_range]; unfold card at *; omega
   ·show Kt.of _ = a
    rw [show (((a.code - 1).toNat : Nat) : Int) + 1 = a.code by omega, Kt.of_code]
 have hnd : all.Nodup := by
  show ((List.range (R.card - 1).toNat).map (fun (i : Nat) => (Kt.of ((i : Int) + 1) : Kt R h))).Nodup
  rw [List.nodup_iff_pairwise_ne, List.pairwise_map]
  refine List.Pairwise.imp_of_mem ?_ (List.pairwise_lt_range (n := (R.card - 1).toNat))
  intro i j hi hj hij he
  rw [List.mem_range] at hi hj
  have h1 := congrArg Kt.code he
  rw [Kt.code_of (by omega) (by unfold card at *; omega), Kt.code_of (by omega) (by unfold card at *; omega)] at h1
  omega
 have hlen : all.length = (R.card - 1).toNat := length_mapR _ _
 obtain ⟨a, ha⟩ := Fi.cyclic all hnd (fun x hx => (hmem x).1 hx) (fun x hx => (hmem x).2 hx)
 rw [hlen] at ha
 have hne := Fi.ord_ne ha
 have hpw : ∀ n, R.powc a.code n = (Fi.pow a n).code := by
  intro n
  have h1 := powc_lt R a.code n
  show _ = R.num (Fi.pow a n).v
  rw [pow_v, num_elt R h1.1 h1.2]
 have h1 : R.powc a.code (R.card - 1).toNat = 1 := by
  rw [hpw, ha.one]; exact num_e0 R
 have hcode0 : Kt.code (0 : Kt R h) = 0 := num_zero R
 have hinj : ∀ i j, i < j → j < (R.card - 1).toNat → Fi.pow a i ≠ Fi.pow a j := by
  intro i j hij hj he
  exact ha.least (j - i) (by omega) (by omega) (Fi.pow_sub hne (by omega) he)
 have hst : R.StopAt a.code (R.card - 1).toNat := by
  refine ⟨by omega, .inr ?_, fun j hj1 hj2 hh => ?_⟩
  ·rw [h1]
   exact (mem_pl R).2 ⟨0, by omega, powc_zero R _⟩
  ·rcases hh with hh | hh
   ·rw [hpw] at hh
    exact Fi.pow_ne hne j (Kt.code_inj (by rw [hh, hcode0]))
   ·obtain ⟨k, hk, hk2⟩ := (mem_pl R).1 hh
    rw [hpw, hpw] at hk2
    exact hinj k j hk hj2 (Kt.code_inj hk2)
 have h2 := Kt.code_lt a
 refine ⟨a.code, ?_, h2.2, ?_, h1⟩
 ·have : a.code ≠ 0 := fun he => hne (Kt.code_inj (by rw [he, hcode0]))
  omega
 ·rw [stopK_eq R hst]; omega
end Rg
noncomputable def Fld.exps (f : Fld) : List Int := f.R.pl f.R.gen (f.q - 1).toNat
noncomputable def Fld.logsTo (f : Fld) (n : Int) : List Int := mapR (fun c => if c ∈ f.R.pl f.R.gen n.toNat then ixOf f.exps c else 0) f.q
noncomputable def Fld.logs (f : Fld) : List Int := f.logsTo (f.q - 1)
theorem logsTo_zero (f : Fld) : f.logsTo 0 = List.replicate f.q.toNat 0 := by
 unfold Fld.logsTo
 rw [← mapR_const]
 apply mapR_congr
 intro i _ _
 rw [if_neg (by simp [Rg.pl])]
theorem FOk.exp_good {f : Fld} (h : FOk f) : f.exps.Nodup ∧ (∀ y ∈ f.exps, 1 ≤ y ∧ y < f.q) ∧ (f.exps.length : Int) = f.q - 1 := by
 have hb := h.1.bd
 have hc := h.1.card
 have h1 := Rg.pl_good f.R (Rg.gen_min f.R h.2)
 rw [hc] at h1
 refine ⟨h1.1, h1.2, ?_⟩
 unfold Fld.exps; rw [Rg.length_pl]; omega
theorem FOk.exp_ix {f : Fld} (h : FOk f) {n : Int} (h0 : 0 ≤ n) (h1 : n < f.q - 1) : ix 0 f.exps n = f.R.powc f.R.gen n.toNat ∧ 1 ≤ ix 0 f.exps n ∧ ix 0 f.exps n < f.q := by
 have h2 := FOk.exp_good h
 have h3 := h2.2.1 _ (ix_mem 0 f.exps h0 (by omega))
 exact ⟨Rg.ix_pl f.R _ h0 (by omega), h3.1, h3.2⟩
theorem FOk.ixOf_exp {f : Fld} (h : FOk f) {n : Int} (h0 : 0 ≤ n) (h1 : n < f.q - 1) : ixOf f.exps (ix 0 f.exps n) = n := by
 have h2 := FOk.exp_good h
 refine ixOf_at f.exps _ h0 (by omega) rfl ?_
 have h3 := (nodup_take_succ f.exps h0 (by omega)).1 (h2.1.sublist (List.take_sublist _ _))
 exact h3.2
theorem FOk.logsTo_succ {f : Fld} (h : FOk f) {n : Int} (h0 : 0 ≤ n) (h1 : n < f.q - 1) : (f.logsTo n).set (ix 0 f.exps n).toNat n = f.logsTo (n + 1) := by
 have h2 := FOk.exp_ix h h0 h1
 have h3 := FOk.ixOf_exp h h0 h1
 unfold Fld.logsTo
 rw [mapR_set _ (by omega)]
 apply mapR_congr
 intro i _ _
 rw [show (n + 1).toNat = n.toNat + 1 by omega, Rg.pl_succ]
 by_cases hi : i = ix 0 f.exps n
 ·rw [if_pos hi, if_pos (by rw [hi, h2.1]; simp), hi, h3]
 ·rw [if_neg hi]
  by_cases hm : i ∈ f.R.pl f.R.gen n.toNat
  ·rw [if_pos hm, if_pos (List.mem_append_left _ hm)]
  ·rw [if_neg hm, if_neg (fun hh => (List.mem_append.1 hh).elim hm (fun hh => hi (by rw [List.mem_singleton] at hh; rw [hh, h2.1])))]
theorem length_logsTo (f : Fld) (n : Int) : (f.logsTo n).length = f.q.toNat := length_mapR _ _
theorem FOk.log {f : Fld} (h : FOk f) {c : Int} (h0 : 1 ≤ c) (h1 : c < f.q) : 0 ≤ ix 0 f.logs c ∧ ix 0 f.logs c < f.q - 1 ∧ f.R.powc f.R.gen (ix 0 f.logs c).toNat = c := by
 have hb := h.1.bd
 have hc := h.1.card
 obtain ⟨k, hk, hk2⟩ := Rg.good_all f.R (Rg.gen_spec f.R h.2).good (Rg.gen_min f.R h.2) (y := c) h0 (by omega)
 have h2 := FOk.exp_ix h (n := (k : Int)) (by omega) (by omega)
 have h3 := FOk.ixOf_exp h (n := (k : Int)) (by omega) (by omega)
 have h4 : ix 0 f.logs c = k := by
  show ix 0 (mapR (fun c => if c ∈ f.R.pl f.R.gen (f.q - 1).toNat then ixOf f.exps c else 0) f.q) c = k
  rw [ix_mapR 0 _ (by omega) h1, if_pos ((Rg.mem_pl f.R).2 ⟨k, by omega, hk2⟩)]
  rw [h2.1, show ((k : Int)).toNat = k by omega, hk2] at h3
  exact h3
 rw [h4]
 refine ⟨by omega, by omega, ?_⟩
 rw [show ((k : Int)).toNat = k by omega, hk2]
theorem FOk.field {f : Fld} (h : FOk f) : f.R.IsField := Rg.field_of_gen _ h.2
theorem fok_iff_irr {f : Fld} (h : Shape f) : FOk f ↔ f.R.Irr :=
 ⟨fun hf => Rg.irr_of_field _ hf.field, fun hi => ⟨h, Rg.gen_of_field _ (fun a ha h0 => Rg.inverse _ h.prime hi ha h0)⟩⟩
end Go.Cw
namespace Go.Cw
instance (f : Fld) : Decidable (modOk f) := by unfold modOk; infer_instance
instance (f : Fld) : Decidable (Shape f) := by unfold Shape; infer_instance
noncomputable instance (f : Fld) : Decidable (FOk f) := Classical.propDecidable _
theorem append_set_rep {α : Type} {ys : List α} {i m : Int} (d v : α) (hl : ys.length = i.toNat) (h0 : 0 ≤ i) (h1 : i < m) :
  (ys ++ List.replicate (m - i).toNat d).set i.toNat v = ys ++ [v] ++ List.replicate (m - (i + 1)).toNat d := by
 rw [List.set_append_right _ _ (by omega), hl, Nat.sub_self, show (m - i).toNat = (m - (i + 1)).toNat + 1 by omega, List.replicate_succ, List.set_cons_zero, List.append_assoc]; rfl
theorem digS_step (p y : Int) {i m : Int} (h1 : i < m) : digS p (m - i).toNat y = y % p :: digS p (m - (i + 1)).toNat (y / p) := by
 rw [show (m - i).toNat = (m - (i + 1)).toNat + 1 by omega]; rfl
theorem valS_drop (p : Int) (d : List Int) {i : Int} (h0 : 0 ≤ i) (h1 : i < d.length) : valS p (d.drop i.toNat) = valS p (d.drop (i + 1).toNat) * p + ix 0 d i := by
 have hi : i.toNat < d.length := by omega
 rw [List.drop_eq_getElem_cons hi, show (i + 1).toNat = i.toNat + 1 by omega]
 simp [valS, ix, List.getD, hi]
theorem valS_drop_bd {p : Int} {d : List Int} (hp : 2 ≤ p) (hd : ∀ c ∈ d, 0 ≤ c ∧ c < p) (hq : p ^ d.length ≤ 256) (k : Nat) : 0 ≤ valS p (d.drop k) ∧ valS p (d.drop k) ≤ 256 := by
 have h1 := valS_bound p hp (d.drop k) (fun c hc => hd c (List.mem_of_mem_drop hc))
 have h2 := pow_mono_of p hp (show (d.drop k).length ≤ d.length by simp)
 omega
theorem base_bd {p : Int} {d : List Int} (hp : 2 ≤ p) (hq : p ^ d.length ≤ 256) (h : 0 < d.length) : p ≤ 256 := by
 have := pow_mono_of p hp (show 1 ≤ d.length by omega)
 rw [Int.pow_one] at this; omega
section
variable {p : Nat} [NeZero p]
theorem ix_dl (m : Nat) (v : Nat → Fin p) {k : Int} (h0 : 0 ≤ k) (h1 : k < m) : ix 0 (dl m v) k = ((v k.toNat).val : Int) := by
 have h2 := getD_dl m v k.toNat
 rw [if_pos (by omega)] at h2
 exact h2
theorem dl_congr {m : Nat} {v u : Nat → Fin p} (h : ∀ k, k < m → v k = u k) : dl m v = dl m u := by
 unfold dl
 apply List.map_congr_left
 intro k hk
 rw [h k (List.mem_range.1 hk)]
theorem dl_zero (m : Nat) : dl m (fun _ => (0 : Fin p)) = List.replicate m 0 := by
 apply List.ext_getElem (by simp [dl])
 intro j h1 h2
 simp [dl]
theorem dl_set (m : Nat) (v : Nat → Fin p) {k x : Int} (h0 : 0 ≤ k) (hk : k < m) (hx : 0 ≤ x) (hx2 : x < p) : (dl m v).set k.toNat x = dl m (Rg.upd v k.toNat (Fin.ofNat p x.toNat)) := by
 apply List.ext_getElem (by simp [dl])
 intro j h1 h2
 simp only [dl, List.length_set, List.length_map, List.length_range] at h1
 rw [List.getElem_set]
 simp only [dl, List.getElem_map, List.getElem_range, Rg.upd]
 by_cases hj : k.toNat = j
 ·rw [if_pos hj, if_pos hj.symm]
  exact (fin_val_int hx hx2).symm
 ·rw [if_neg hj, if_neg (fun h => hj h.symm)]
theorem dl_shift (m : Nat) (hm : 1 ≤ m) (v : Nat → Fin p) : (((dl m v).take 1 ++ (dl m v).take (m - 1)) ++ (dl m v).drop m).set 0 0 = dl m (fun k => if k = 0 then 0 else v (k - 1)) := by
 have hd : (dl m v).drop m = [] := List.drop_of_length_le (by rw [length_dl]; exact Nat.le_refl _)
 rw [hd, List.append_nil]
 apply List.ext_getElem
 ·simp [dl]; omega
 ·intro j h1 h2
  rw [length_dl] at h2
  rw [List.getElem_set]
  by_cases hj : 0 = j
  ·rw [if_pos hj]; subst hj; simp [dl]
  ·rw [if_neg hj]
   have e : (List.take 1 (dl m v)).length = 1 := by simp [dl]; omega
   rw [List.getElem_append_right (by omega)]
   simp only [dl] at e
   simp only [dl, List.getElem_take, List.getElem_map, List.getElem_range, e]
   rw [if_neg (by omega)]
end
namespace Rg
variable {p : Nat} [NeZero p] (R : Rg p)
def hstep (H a : R.V) (c : Fin p) (j : Nat) : R.V := fun k => if k < j then R.vadd (R.T H) (R.smul c a) k else if k = 0 then 0 else H (k - 1)
theorem hstep_zero (H a : R.V) (c : Fin p) : R.hstep H a c 0 = fun k => if k = 0 then 0 else H (k - 1) := by
 funext k; unfold hstep; rw [if_neg (by omega)]
theorem hstep_succ (H a : R.V) (c s : Fin p) (j : Nat) (hs : s = R.vadd (R.T H) (R.smul c a) j) : upd (R.hstep H a c j) j s = R.hstep H a c (j + 1) := by
 funext k
 unfold upd hstep
 by_cases h : k = j
 ·rw [if_pos h, if_pos (by omega), h, hs]
 ·rw [if_neg h]
  by_cases h2 : k < j
  ·rw [if_pos h2, if_pos (by omega)]
  ·simp only [if_neg h2, show ¬ k < j + 1 by omega, if_false]
theorem hstep_all (H a : R.V) (c : Fin p) : dl R.m (R.hstep H a c R.m) = dl R.m (R.vadd (R.T H) (R.smul c a)) :=
 dl_congr fun k hk => by unfold hstep; rw [if_pos hk]
theorem hstep_val (H a : R.V) (c : Fin p) {j : Nat} (hj : j < R.m) (hH : R.El H) :
  (if j = 0 then 0 else H (j - 1)) + -(H (R.m - 1)) * R.md j + c * a j = R.vadd (R.T H) (R.smul c a) j := by
 unfold vadd smul T
 rw [if_pos hj]
 grind
theorem hor_el (b a : R.V) (ha : R.El a) (n : Nat) : R.El (R.hor b a n) := by
 cases n with
 | zero => exact vzero_el R
 | succ n => exact vadd_el R (T_el R _) (smul_el R _ ha)
end Rg
def lowF (f : Fld) (j : Int) : Int := if 1 < f.M then ix 0 f.mod j else 0
namespace Shape
variable {f : Fld}
theorem mN (h : Shape f) : f.R.m = f.M.toNat := by have := mI h; omega
theorem mod_len (h : Shape f) (h1 : 1 < f.M) : (f.mod.length : Int) = f.M ∧ ∀ c ∈ f.mod, 0 ≤ c ∧ c < f.P := by
 have h2 := h.2.2
 unfold modOk at h2
 rw [if_neg (by omega)] at h2
 exact h2
theorem low (h : Shape f) {j : Int} (h0 : 0 ≤ j) (h1 : j < f.M) : (0 ≤ lowF f j ∧ lowF f j < f.P) ∧ Fin.ofNat f.p (lowF f j).toNat = f.R.md j.toNat := by
 have hb := bd h
 unfold lowF
 by_cases hm : 1 < f.M
 ·rw [if_pos hm]
  have h2 := mod_len h hm
  refine ⟨h2.2 _ (ix_mem 0 f.mod h0 (by omega)), ?_⟩
  show _ = (if f.M = 1 then fun _ => 0 else dv f.mod) j.toNat
  rw [if_neg (by omega)]; rfl
 ·rw [if_neg hm]
  refine ⟨by omega, ?_⟩
  show _ = (if f.M = 1 then fun _ => 0 else dv f.mod) j.toNat
  rw [if_pos (by omega)]; rfl
theorem elt (h : Shape f) (x : Int) : f.R.elt x = dv (digS f.P f.M.toNat x) := by
 unfold Rg.elt; rw [pI h, mN h]
theorem dig_ix (h : Shape f) (x : Int) {i : Int} (h0 : 0 ≤ i) (h1 : i < f.M) : 0 ≤ ix 0 (digS f.P f.M.toNat x) i ∧ ix 0 (digS f.P f.M.toNat x) i < f.P := by
 have hb := bd h
 exact digS_mem f.P hb.1 _ _ _ (ix_mem 0 _ h0 (by rw [length_digS]; omega))
theorem step (h : Shape f) (x y : Int) (H : f.R.V) (hH : f.R.El H) {i j : Int} (i0 : 0 ≤ i) (i1 : i < f.M) (j0 : 0 ≤ j) (j1 : j < f.M) :
  (0 ≤ ((ix 0 (dl f.R.m (f.R.hstep H (f.R.elt x) (f.R.elt y i.toNat) j.toNat)) j + (f.P - ix 0 (dl f.R.m H) (f.M - 1)) * lowF f j) + ix 0 (digS f.P f.M.toNat y) i * ix 0 (digS f.P f.M.toNat x) j) % f.P) ∧
  (dl f.R.m (f.R.hstep H (f.R.elt x) (f.R.elt y i.toNat) j.toNat)).set j.toNat (((ix 0 (dl f.R.m (f.R.hstep H (f.R.elt x) (f.R.elt y i.toNat) j.toNat)) j + (f.P - ix 0 (dl f.R.m H) (f.M - 1)) * lowF f j) + ix 0 (digS f.P f.M.toNat y) i * ix 0 (digS f.P f.M.toNat x) j) % f.P) =
   dl f.R.m (f.R.hstep H (f.R.elt x) (f.R.elt y i.toNat) (j + 1).toNat) := by
 have hb := bd h
 have hp := pI h
 have hm := mN h
 have hlow := low h j0 j1
 have hdx := dig_ix h x j0 j1
 have hdy := dig_ix h y i0 i1
 rw [ix_dl _ _ j0 (by omega), ix_dl _ H (by omega) (by omega)]
 have hs : (f.R.hstep H (f.R.elt x) (f.R.elt y i.toNat) j.toNat) j.toNat = if j.toNat = 0 then 0 else H (j.toNat - 1) := by
  unfold Rg.hstep; rw [if_neg (by omega)]
 rw [hs]
 generalize hr : (if j.toNat = 0 then (0 : Fin f.p) else H (j.toNat - 1)) = r
 have hrl := r.isLt
 have htl := (H (f.M - 1).toNat).isLt
 have e1 := fin_step3 (p := f.p) (r := (r.val : Int)) (t := ((H (f.M - 1).toNat).val : Int)) (l := lowF f j) (a := ix 0 (digS f.P f.M.toNat x) j) (b := ix 0 (digS f.P f.M.toNat y) i)
  (by omega) (by omega) (by omega) hlow.1.1 hdx.1 hdy.1
 rw [hp] at e1
 have hpos : 0 < f.P := by omega
 have hmod := Int.emod_nonneg (((r.val : Int) + (f.P - ((H (f.M - 1).toNat).val : Int)) * lowF f j) + ix 0 (digS f.P f.M.toNat y) i * ix 0 (digS f.P f.M.toNat x) j) (show f.P ≠ 0 by omega)
 have hmod2 := Int.emod_lt_of_pos (((r.val : Int) + (f.P - ((H (f.M - 1).toNat).val : Int)) * lowF f j) + ix 0 (digS f.P f.M.toNat y) i * ix 0 (digS f.P f.M.toNat x) j) hpos
 refine ⟨hmod, ?_⟩
 rw [dl_set _ _ j0 (by omega) hmod (by omega), e1, show (j + 1).toNat = j.toNat + 1 by omega]
 rw [Rg.hstep_succ f.R H _ _ _ _ ?_]
 have h5 := Rg.hstep_val f.R H (f.R.elt x) (f.R.elt y i.toNat) (j := j.toNat) (by omega) hH
 rw [← h5, hr, hlow.2]
 have e2 : ∀ u : Fin f.p, Fin.ofNat f.p ((u.val : Int)).toNat = u := by
  intro u; apply Fin.ext; simp only [Fin.ofNat, Int.toNat_natCast]; exact Nat.mod_eq_of_lt u.isLt
 rw [e2, e2, show (f.M - 1).toNat = f.R.m - 1 by omega]
 rw [elt h x, elt h y]; rfl
theorem step_bd (h : Shape f) (H V : f.R.V) {i j : Int} (x y : Int) (i0 : 0 ≤ i) (i1 : i < f.M) (j0 : 0 ≤ j) (j1 : j < f.M) :
  (0 ≤ ix 0 (dl f.R.m V) j ∧ ix 0 (dl f.R.m V) j ≤ 256) ∧ (0 ≤ f.P - ix 0 (dl f.R.m H) (f.M - 1) ∧ f.P - ix 0 (dl f.R.m H) (f.M - 1) ≤ 256) ∧ (0 ≤ (f.P - ix 0 (dl f.R.m H) (f.M - 1)) * lowF f j ∧ (f.P - ix 0 (dl f.R.m H) (f.M - 1)) * lowF f j ≤ 65536) ∧
  (0 ≤ ix 0 (digS f.P f.M.toNat y) i * ix 0 (digS f.P f.M.toNat x) j ∧ ix 0 (digS f.P f.M.toNat y) i * ix 0 (digS f.P f.M.toNat x) j ≤ 65536) := by
 have hb := bd h
 have hp := pI h
 have hm := mN h
 have hlow := low h j0 j1
 have hdx := dig_ix h x j0 j1
 have hdy := dig_ix h y i0 i1
 rw [ix_dl _ _ j0 (by omega), ix_dl _ H (by omega) (by omega)]
 have h1 := (V j.toNat).isLt
 have h2 := (H (f.M - 1).toNat).isLt
 exact ⟨by omega, by omega, mul_small (by omega) (by omega) hlow.1.1 (by omega), mul_small hdy.1 (by omega) hdx.1 (by omega)⟩
end Shape
end Go.Cw
namespace Go.Cw
namespace Rg
variable {p : Nat} [NeZero p] (R : Rg p)
theorem sub_T_congr {d : Nat} (hd : 1 ≤ d) {g k : Nat → Fin p} (h : ∀ j, j < d → g j = k j) (a : R.V) : (R.sub d hd g).T a = (R.sub d hd k).T a := by
 funext j
 show (if j < d then (if j = 0 then 0 else a (j - 1)) - a (d - 1) * g j else 0) = (if j < d then (if j = 0 then 0 else a (j - 1)) - a (d - 1) * k j else 0)
 by_cases hj : j < d
 ·rw [h j hj]
 ·rw [if_neg hj, if_neg hj]
theorem sub_pw_congr {d : Nat} (hd : 1 ≤ d) {g k : Nat → Fin p} (h : ∀ j, j < d → g j = k j) (n : Nat) (a : R.V) : (R.sub d hd g).pw n a = (R.sub d hd k).pw n a := by
 induction n with
 | zero => rfl
 | succ n ih => show (R.sub d hd g).T _ = (R.sub d hd k).T _; rw [ih, sub_T_congr R hd h]
theorem sub_act_congr {d : Nat} (hd : 1 ≤ d) {g k : Nat → Fin p} (h : ∀ j, j < d → g j = k j) (n : Nat) (b a : R.V) : (R.sub d hd g).act n b a = (R.sub d hd k).act n b a := by
 induction n with
 | zero => rfl
 | succ n ih =>
  show (R.sub d hd g).vadd _ _ = (R.sub d hd k).vadd _ _
  rw [ih, sub_pw_congr R hd h]; rfl
end Rg
def DivB (f : Fld) (low : List Int) : Prop := ∃ hd : 1 ≤ low.length, (f.R.sub low.length hd (dv low)).act (f.R.m + 1) f.R.fp (f.R.sub low.length hd (dv low)).e0 = (f.R.sub low.length hd (dv low)).vzero
noncomputable instance (f : Fld) (low : List Int) : Decidable (DivB f low) := Classical.propDecidable _
def IrrB (f : Fld) : Prop := ∀ (d : Nat) (v : Int), 1 ≤ d → 2 * (d : Int) ≤ f.M → 0 ≤ v → v < f.P ^ d → ¬ DivB f (digS f.P d v)
noncomputable instance (f : Fld) : Decidable (IrrB f) := Classical.propDecidable _
theorem irrB_iff {f : Fld} (h : Shape f) : IrrB f ↔ f.R.Irr := by
 have hb := h.bd
 have hp := h.pI
 have hm := h.mI
 constructor
 ·intro hi d hd g hdm hz
  have hlen : (dl d g).length = d := length_dl d g
  have hmem : ∀ c ∈ dl d g, 0 ≤ c ∧ c < f.P := by rw [← hp]; exact Rg.dl_mem d g
  have hval := valS_bound f.P hb.1 (dl d g) hmem
  have hdig := digS_valS f.P hb.1 (dl d g) hmem
  rw [hlen] at hval hdig
  refine hi d (valS f.P (dl d g)) hd (by omega) hval.1 hval.2 ?_
  rw [hdig]
  have hco : ∀ j, j < d → dv (p := f.p) (dl d g) j = g j := by
   intro j hj
   unfold dv
   rw [getD_dl, if_pos hj]
   apply Fin.ext
   simp only [Fin.ofNat, Int.toNat_natCast]
   exact Nat.mod_eq_of_lt (g j).isLt
  refine ⟨by omega, ?_⟩
  have key : ∀ (e : Nat) (he : 1 ≤ e) (hed : e = d), (f.R.sub e he (dv (dl d g))).act (f.R.m + 1) f.R.fp (f.R.sub e he (dv (dl d g))).e0 = (f.R.sub e he (dv (dl d g))).vzero := by
   intro e he hed
   subst hed
   rw [Rg.sub_act_congr f.R he hco]; exact hz
  exact key _ (by omega) hlen
 ·intro hi d v hd hdm h0 h1 hz
  obtain ⟨hd2, hz⟩ := hz
  exact hi _ hd2 _ (by rw [length_digS]; omega) hz
theorem fok_iff_irrB {f : Fld} (h : Shape f) : FOk f ↔ IrrB f := (fok_iff_irr h).trans (irrB_iff h).symm
theorem fok_one {f : Fld} (h : Shape f) (h1 : f.M = 1) : FOk f := (fok_iff_irrB h).2 (fun d v hd hdm => by omega)
open Classical in
noncomputable def fErr (f : Fld) : Int := if FOk f then 0 else 1
theorem fErr_zero {f : Fld} : fErr f = 0 ↔ FOk f := by
 unfold fErr
 split <;> simp_all
theorem fErr_ok {f : Fld} (h : FOk f) : fErr f = 0 := fErr_zero.2 h
theorem fErr_no {f : Fld} (h : ¬ FOk f) : fErr f = 1 := by unfold fErr; rw [if_neg h]
theorem dv_fp {f : Fld} (h : Shape f) (h1 : 1 < f.M) : dv (p := f.p) (f.mod ++ [1]) = f.R.fp := by
 have hm := h.mI
 have hl := h.mod_len h1
 have hb := h.bd
 funext j
 unfold dv Rg.fp
 show Fin.ofNat f.p ((f.mod ++ [1]).getD j 0).toNat = if j < f.R.m then (if f.M = 1 then fun _ => 0 else dv f.mod) j else if j = f.R.m then 1 else 0
 rw [if_neg (show ¬ f.M = 1 by omega)]
 by_cases hj : j < f.R.m
 ·rw [if_pos hj]
  unfold dv
  congr 2
  simp only [List.getD]
  rw [List.getElem?_append_left (by omega)]
 ·rw [if_neg hj]
  by_cases hj2 : j = f.R.m
  ·rw [if_pos hj2]
   have : (f.mod ++ [1]).getD j 0 = 1 := by
    simp only [List.getD]
    rw [List.getElem?_append_right (by omega), show j - f.mod.length = 0 by omega]; rfl
   rw [this]
   apply Fin.ext
   rfl
  ·rw [if_neg hj2]
   have : (f.mod ++ [1]).getD j 0 = 0 := by
    simp only [List.getD]
    rw [List.getElem?_eq_none (by simp; omega)]; rfl
   rw [this]; rfl
theorem mod1_mem {f : Fld} (h : Shape f) (h1 : 1 < f.M) : ∀ c ∈ f.mod ++ [1], 0 ≤ c ∧ c < f.P := by
 have hb := h.bd
 intro c hc
 rcases List.mem_append.1 hc with hc | hc
 ·exact (h.mod_len h1).2 c hc
 ·rw [List.mem_singleton] at hc; omega
theorem red_list {p : Nat} [NeZero p] {r : List Int} {i d j : Int} {c l : Int} (S : Rg p) (hmS : (S.m : Int) = d) (hmd : S.md j.toNat = Fin.ofNat p l.toNat) (hr : ∀ y ∈ r, 0 ≤ y ∧ y < (p : Int)) (hi : d ≤ i) (hil : i < r.length) (hj : 0 ≤ j) (hjd : j < d)
  (hc : Fin.ofNat p c.toNat = dv r i.toNat) (hc0 : 0 ≤ c) (hcp : c ≤ p) (hl0 : 0 ≤ l) (X : S.V)
  (h : S.vadd (S.act i.toNat (dv r) S.e0) (S.smul (dv r i.toNat) (S.vadd (S.pw i.toNat S.e0) (S.pw (i.toNat - S.m) (S.act j.toNat S.md S.e0)))) = X) :
  let r' := r.set (i - d + j).toNat ((ix 0 r (i - d + j) + ((p : Int) - c) * l) % p)
  (∀ y ∈ r', 0 ≤ y ∧ y < (p : Int)) ∧ dv (p := p) r' i.toNat = dv r i.toNat ∧
  S.vadd (S.act i.toNat (dv r') S.e0) (S.smul (dv r' i.toNat) (S.vadd (S.pw i.toNat S.e0) (S.pw (i.toNat - S.m) (S.act (j + 1).toNat S.md S.e0)))) = X := by
 intro r'
 have hp : 0 < (p : Int) := by have := S.hp; omega
 have hix := hr _ (ix_mem 0 r (i := i - d + j) (by omega) (by omega))
 have hval := Int.emod_nonneg (ix 0 r (i - d + j) + ((p : Int) - c) * l) (show (p : Int) ≠ 0 by omega)
 have hval2 := Int.emod_lt_of_pos (ix 0 r (i - d + j) + ((p : Int) - c) * l) hp
 have hset : dv (p := p) r' = Rg.upd (dv r) (i.toNat - S.m + j.toNat) (dv r (i.toNat - S.m + j.toNat) + -(dv r i.toNat) * S.md j.toNat) := by
  show dv (r.set _ _) = _
  rw [dv_set r (by omega) (by omega), fin_step hix.1 hc0 hcp hl0, hc, hmd]
  have e : (i - d + j).toNat = i.toNat - S.m + j.toNat := by omega
  rw [← dv_eq r (i - d + j) (by omega), e]
 have hne : dv (p := p) r' i.toNat = dv r i.toNat := by
  rw [hset]; unfold Rg.upd; rw [if_neg (by omega)]
 refine ⟨mem_set_range hr ⟨hval, hval2⟩, hne, ?_⟩
 rw [hne, hset, show (j + 1).toNat = j.toNat + 1 by omega]
 exact Rg.red_step S (dv r) i.toNat j.toNat X (by omega) (by omega) h
theorem divB_end {f : Fld} {low r : List Int} (hd : 1 ≤ low.length) (hr : ∀ y ∈ r, 0 ≤ y ∧ y < (f.p : Int)) (hz : ∀ k : Int, (low.length : Int) ≤ k → k < r.length → ix 0 r k = 0) (hl : low.length ≤ r.length)
  (h : (f.R.sub low.length hd (dv low)).act low.length (dv r) (f.R.sub low.length hd (dv low)).e0 = (f.R.sub low.length hd (dv low)).act (f.R.m + 1) f.R.fp (f.R.sub low.length hd (dv low)).e0) :
  DivB f low ↔ ∀ k : Int, 0 ≤ k → k < r.length → ix 0 r k = 0 := by
 have hact := Rg.act_e0 (f.R.sub low.length hd (dv low)) low.length (dv r) (Nat.le_refl _)
 constructor
 ·rintro ⟨_, hz2⟩ k k0 k1
  by_cases hk : (low.length : Int) ≤ k
  ·exact hz k hk k1
  ·rw [← h, hact] at hz2
   have h2 : (if k.toNat < low.length then dv (p := f.p) r k.toNat else 0) = 0 := congrFun hz2 k.toNat
   rw [if_pos (by omega)] at h2
   have h3 := dv_range (p := f.p) k k0 k1 hr
   have h4 : dv (p := f.p) r k.toNat = 0 := h2
   rw [h4] at h3
   exact h3.symm
 ·intro hall
  refine ⟨hd, ?_⟩
  rw [← h, hact]
  funext j
  show (if j < low.length then dv r j else 0) = 0
  split
  ·rename_i hj
   unfold dv
   have := hall (j : Int) (by omega) (by omega)
   have h5 : r.getD j 0 = 0 := by simpa [ix] using this
   rw [h5]; rfl
  ·rfl
end Go.Cw
namespace Go.Cw
def inF (f : Fld) (x : Int) : Int := if 0 ≤ x ∧ x < f.q then x else 0
def addF (f : Fld) (x y : Int) : Int := f.R.addc (inF f x) (inF f y)
def negF (f : Fld) (x : Int) : Int := f.R.negc (inF f x)
def mulF (f : Fld) (x y : Int) : Int := f.R.mulc (inF f x) (inF f y)
def powN (f : Fld) (n : Int) : Int := (n.tmod (f.q - 1) + (f.q - 1)) % (f.q - 1)
def powF (f : Fld) (x n : Int) : Int := if n = 0 then 1 else if inF f x = 0 then 0 else f.R.powc (inF f x) (powN f n).toNat
theorem inF_lt {f : Fld} (h : Shape f) (x : Int) : 0 ≤ inF f x ∧ inF f x < f.q := by
 have hb := h.bd
 unfold inF; split <;> omega
theorem inF_id {f : Fld} {x : Int} (h0 : 0 ≤ x) (h1 : x < f.q) : inF f x = x := by unfold inF; rw [if_pos ⟨h0, h1⟩]
namespace Shape
variable {f : Fld}
theorem addF_lt (h : Shape f) (x y : Int) : 0 ≤ addF f x y ∧ addF f x y < f.q := by rw [← card h]; exact Rg.addc_lt f.R _ _
theorem negF_lt (h : Shape f) (x : Int) : 0 ≤ negF f x ∧ negF f x < f.q := by rw [← card h]; exact Rg.negc_lt f.R _
theorem mulF_lt (h : Shape f) (x y : Int) : 0 ≤ mulF f x y ∧ mulF f x y < f.q := by rw [← card h]; exact Rg.mulc_lt f.R _ _
theorem num (h : Shape f) (v : f.R.V) : f.R.num v = valS f.P (dl f.R.m v) := by unfold Rg.num; rw [pI h]
theorem elt_ix (h : Shape f) (x : Int) {i : Int} (h0 : 0 ≤ i) : f.R.elt x i.toNat = Fin.ofNat f.p (ix 0 (digS f.P f.M.toNat x) i).toNat := by
 rw [elt h]; rfl
end Shape
theorem conv_list {f : Fld} (h : Shape f) {cs : List Int} {x y i j : Int} (hl : (cs.length : Int) = 2 * f.M - 1) (hr : ∀ z ∈ cs, 0 ≤ z ∧ z < (f.p : Int)) (i0 : 0 ≤ i) (i1 : i < f.M) (j0 : 0 ≤ j) (j1 : j < f.M)
  (hX : f.R.act (2 * f.R.m - 1) (dv cs) f.R.e0 = f.R.vadd (f.R.act i.toNat (f.R.elt x) (f.R.act f.R.m (f.R.elt y) f.R.e0)) (f.R.smul (f.R.elt x i.toNat) (f.R.pw i.toNat (f.R.act j.toNat (f.R.elt y) f.R.e0)))) :
  let cs' := cs.set (i + j).toNat ((ix 0 cs (i + j) + ix 0 (digS f.P f.M.toNat x) i * ix 0 (digS f.P f.M.toNat y) j) % f.P)
  (∀ z ∈ cs', 0 ≤ z ∧ z < (f.p : Int)) ∧
  f.R.act (2 * f.R.m - 1) (dv cs') f.R.e0 = f.R.vadd (f.R.act i.toNat (f.R.elt x) (f.R.act f.R.m (f.R.elt y) f.R.e0)) (f.R.smul (f.R.elt x i.toNat) (f.R.pw i.toNat (f.R.act (j + 1).toNat (f.R.elt y) f.R.e0))) := by
 intro cs'
 have hb := h.bd
 have hp := h.pI
 have hm := h.mI
 have hix := hr _ (ix_mem 0 cs (i := i + j) (by omega) (by omega))
 have hdx := h.dig_ix x i0 i1
 have hdy := h.dig_ix y j0 j1
 have hv := Int.emod_nonneg (ix 0 cs (i + j) + ix 0 (digS f.P f.M.toNat x) i * ix 0 (digS f.P f.M.toNat y) j) (show f.P ≠ 0 by omega)
 have hv2 := Int.emod_lt_of_pos (ix 0 cs (i + j) + ix 0 (digS f.P f.M.toNat x) i * ix 0 (digS f.P f.M.toNat y) j) (show 0 < f.P by omega)
 refine ⟨mem_set_range hr ⟨hv, by omega⟩, ?_⟩
 have hset : dv (p := f.p) cs' = Rg.upd (dv cs) (i.toNat + j.toNat) (dv cs (i.toNat + j.toNat) + f.R.elt x i.toNat * f.R.elt y j.toNat) := by
  show dv (cs.set _ _) = _
  rw [dv_set cs (by omega) (by omega)]
  have e := fin_step2 (p := f.p) hix.1 hdx.1 hdy.1
  rw [hp] at e
  rw [e, h.elt_ix x i0, h.elt_ix y j0, show (i + j).toNat = i.toNat + j.toNat by omega, ← dv_eq cs (i + j) (by omega), show (i + j).toNat = i.toNat + j.toNat by omega]
 rw [hset, show (j + 1).toNat = j.toNat + 1 by omega]
 exact Rg.conv_step f.R _ _ _ _ _ (by omega) (by omega) hX
theorem conv_start {f : Fld} (x y : Int) (n : Nat) : f.R.act (2 * f.R.m - 1) (dv (List.replicate n 0)) f.R.e0 = f.R.vadd (f.R.act (0 : Int).toNat (f.R.elt x) (f.R.act f.R.m (f.R.elt y) f.R.e0)) (f.R.smul (f.R.elt x (0 : Int).toNat) (f.R.pw (0 : Int).toNat (f.R.act (0 : Int).toNat (f.R.elt y) f.R.e0))) := by
 have h1 : dv (p := f.p) (List.replicate n 0) = f.R.vzero := by
  funext j
  unfold dv
  have : (List.replicate n (0 : Int)).getD j 0 = 0 := by
   simp only [List.getD, List.getElem?_replicate]
   split <;> rfl
  rw [this]; rfl
 have h2 : ∀ k, f.R.act k f.R.vzero f.R.e0 = f.R.vzero := by
  intro k
  induction k with
  | zero => rfl
  | succ k ih =>
   simp only [Rg.act]; rw [ih]
   funext j; simp only [Rg.vadd, Rg.smul, Rg.vzero]; grind
 rw [h1, h2]
 show f.R.vzero = f.R.vadd f.R.vzero (f.R.smul _ f.R.vzero)
 rw [Rg.smul_zero]
 funext j; simp only [Rg.vadd, Rg.vzero]; grind
theorem conv_next {f : Fld} {cs : List Int} {x y i : Int} (i0 : 0 ≤ i) (hX : f.R.act (2 * f.R.m - 1) (dv cs) f.R.e0 = f.R.vadd (f.R.act i.toNat (f.R.elt x) (f.R.act f.R.m (f.R.elt y) f.R.e0)) (f.R.smul (f.R.elt x i.toNat) (f.R.pw i.toNat (f.R.act f.R.m (f.R.elt y) f.R.e0)))) :
  f.R.act (2 * f.R.m - 1) (dv cs) f.R.e0 = f.R.vadd (f.R.act (i + 1).toNat (f.R.elt x) (f.R.act f.R.m (f.R.elt y) f.R.e0)) (f.R.smul (f.R.elt x (i + 1).toNat) (f.R.pw (i + 1).toNat (f.R.act (0 : Int).toNat (f.R.elt y) f.R.e0))) := by
 rw [show (i + 1).toNat = i.toNat + 1 by omega]
 exact Rg.conv_row f.R _ _ _ _ hX
theorem conv_end {f : Fld} {cs : List Int} {x y : Int} {i : Int} (hi : i.toNat = f.R.m) (hX : f.R.act (2 * f.R.m - 1) (dv cs) f.R.e0 = f.R.vadd (f.R.act i.toNat (f.R.elt x) (f.R.act f.R.m (f.R.elt y) f.R.e0)) (f.R.smul (f.R.elt x i.toNat) (f.R.pw i.toNat (f.R.act (0 : Int).toNat (f.R.elt y) f.R.e0)))) :
  f.R.act (2 * f.R.m - 1) (dv cs) f.R.e0 = f.R.mul (f.R.elt x) (f.R.elt y) := by
 rw [hX, hi]
 have h1 : f.R.act f.R.m (f.R.elt y) f.R.e0 = f.R.elt y := Rg.mul_e0 f.R (Rg.elt_el f.R y)
 rw [h1]
 show f.R.vadd (f.R.mul (f.R.elt x) (f.R.elt y)) (f.R.smul _ (f.R.pw _ f.R.vzero)) = _
 rw [Rg.pw_zero, Rg.smul_zero]
 funext j; simp only [Rg.vadd, Rg.vzero]; grind
theorem take_val {f : Fld} (h : Shape f) {cs : List Int} (hl : f.M ≤ (cs.length : Int)) (hr : ∀ z ∈ cs, 0 ≤ z ∧ z < (f.p : Int)) (X : f.R.V) (hX : f.R.act f.R.m (dv cs) f.R.e0 = X) : valS f.P (cs.take f.M.toNat) = f.R.num X := by
 have hb := h.bd
 have hm := h.mI
 rw [h.num, ← hX, Rg.act_e0 f.R f.R.m (dv cs) (Nat.le_refl _)]
 congr 1
 apply List.ext_getElem
 ·rw [length_dl, List.length_take]; omega
 ·intro j h1 h2
  rw [length_dl] at h2
  simp only [dl, List.getElem_take, List.getElem_map, List.getElem_range]
  rw [if_pos h2]
  have hj : j < cs.length := by omega
  have := dv_range (p := f.p) (l := cs) (j : Int) (by omega) (by omega) hr
  simp only [Int.toNat_natCast] at this
  rw [this]
  simp [ix, List.getD, hj]
theorem mulc_num {f : Fld} (x y : Int) : f.R.num (f.R.mul (f.R.elt x) (f.R.elt y)) = f.R.mulc x y := by
 unfold Rg.mulc; rw [Rg.mul_comm f.R (Rg.elt_el f.R x) (Rg.elt_el f.R y)]
theorem FOk.powc_mod {f : Fld} (h : FOk f) (n : Nat) : f.R.powc f.R.gen (n % (f.q - 1).toNat) = f.R.powc f.R.gen n := by
 have hc := h.1.card
 have hg := (Rg.gen_spec f.R h.2).good.2
 rw [hc] at hg
 have h1 : ∀ k : Nat, f.R.powc f.R.gen ((f.q - 1).toNat * k) = 1 := by
  intro k
  induction k with
  | zero => exact Rg.powc_zero f.R _
  | succ k ih =>
   rw [Nat.mul_succ, ← Rg.mulc_powc, ih, hg]
   exact Rg.mulc_one_left f.R (by omega) (by have := Rg.card_pos f.R; omega)
 conv => rhs; rw [← Nat.div_add_mod n (f.q - 1).toNat, ← Rg.mulc_powc, h1]
 exact (Rg.mulc_one_left f.R (Rg.powc_lt f.R _ _).1 (Rg.powc_lt f.R _ _).2).symm
theorem FOk.mul_log {f : Fld} (h : FOk f) {x y : Int} (x0 : 1 ≤ x) (x1 : x < f.q) (y0 : 1 ≤ y) (y1 : y < f.q) :
  ix 0 f.exps ((ix 0 f.logs x + ix 0 f.logs y) % (f.q - 1)) = f.R.mulc x y := by
 have hb := h.1.bd
 have hx := h.log x0 x1
 have hy := h.log y0 y1
 have hm := Int.emod_nonneg (ix 0 f.logs x + ix 0 f.logs y) (show f.q - 1 ≠ 0 by omega)
 have hm2 := Int.emod_lt_of_pos (ix 0 f.logs x + ix 0 f.logs y) (show 0 < f.q - 1 by omega)
 rw [(h.exp_ix hm hm2).1]
 have e : ((ix 0 f.logs x + ix 0 f.logs y) % (f.q - 1)).toNat = ((ix 0 f.logs x).toNat + (ix 0 f.logs y).toNat) % (f.q - 1).toNat := by
  rw [Int.toNat_emod (by omega) (by omega), toNat_add' hx.1 hy.1]
 rw [e, h.powc_mod, ← Rg.mulc_powc, hx.2.2, hy.2.2]
end Go.Cw
namespace Go.Cw
def wadd (p : Int) : Nat → Int → Int → Int
 | 0, _, _ => 0
 | n + 1, x, y => (x % p + y % p) % p + p * wadd p n (x / p) (y / p)
def dadd (p : Int) : Nat → Int → Int → List Int
 | 0, _, _ => []
 | n + 1, x, y => (x % p + y % p) % p :: dadd p n (x / p) (y / p)
theorem wadd_succ (p : Int) {n : Nat} (h : 1 ≤ n) (x y : Int) : wadd p n x y = (x % p + y % p) % p + p * wadd p (n - 1) (x / p) (y / p) := by
 obtain ⟨k, rfl⟩ : ∃ k, n = k + 1 := ⟨n - 1, by omega⟩
 rfl
theorem wadd_zero (p : Int) : ∀ n, wadd p n 0 0 = 0
 | 0 => rfl
 | n + 1 => by simp [wadd, wadd_zero p n]
theorem wadd_nonneg (p : Int) (hp : 2 ≤ p) : ∀ n x y, 0 ≤ wadd p n x y
 | 0, _, _ => Int.le_refl _
 | n + 1, x, y => by
  have h1 := wadd_nonneg p hp n (x / p) (y / p)
  have h2 := Int.emod_nonneg (x % p + y % p) (show p ≠ 0 by omega)
  have h3 := Int.mul_nonneg (show 0 ≤ p by omega) h1
  simp only [wadd]; omega
theorem valS_dadd (p : Int) : ∀ n x y, valS p (dadd p n x y) = wadd p n x y
 | 0, _, _ => rfl
 | n + 1, x, y => by
  simp only [dadd, valS, wadd, valS_dadd p n]
  rw [Int.mul_comm]; omega
theorem length_dadd (p : Int) : ∀ n x y, (dadd p n x y).length = n
 | 0, _, _ => rfl
 | n + 1, x, y => by simp [dadd, length_dadd p n]
theorem getElem?_dadd (p : Int) : ∀ (n : Nat) (x y : Int) (j : Nat), j < n → (dadd p n x y)[j]? = some (((digS p n x).getD j 0 + (digS p n y).getD j 0) % p)
 | 0, _, _, _, h => by omega
 | n + 1, x, y, 0, _ => by simp [dadd, digS]
 | n + 1, x, y, j + 1, h => by
  have := getElem?_dadd p n (x / p) (y / p) j (by omega)
  simpa [dadd, digS] using this
theorem Shape.addc_wadd {f : Fld} (h : Shape f) (x y : Int) : f.R.addc x y = wadd f.P f.M.toNat x y := by
 have hb := h.bd
 have hP := h.pI
 have hN := h.mN
 rw [← valS_dadd]
 show f.R.num (f.R.vadd (f.R.elt x) (f.R.elt y)) = _
 rw [h.num]
 congr 1
 apply List.ext_getElem?
 intro j
 by_cases hj : j < f.R.m
 ·rw [getElem?_dadd _ _ _ _ _ (by omega)]
  have e : (dl f.R.m (f.R.vadd (f.R.elt x) (f.R.elt y)))[j]? = some (((f.R.vadd (f.R.elt x) (f.R.elt y)) j).val : Int) := by simp [dl, hj]
  rw [e]
  have hx := h.dig_ix x (i := (j : Int)) (by omega) (by omega)
  have hy := h.dig_ix y (i := (j : Int)) (by omega) (by omega)
  have e1 := h.elt_ix x (i := (j : Int)) (by omega)
  have e2 := h.elt_ix y (i := (j : Int)) (by omega)
  simp only [Int.toNat_natCast] at e1 e2
  simp only [ix, Int.toNat_natCast] at hx hy e1 e2
  congr 1
  show (((f.R.elt x j + f.R.elt y j : Fin f.p).val : Nat) : Int) = _
  rw [e1, e2, ← fin_ofNat_add, ← toNat_add' hx.1 hy.1, ← fin_of_emod _ (by omega), hP]
  have h1 := Int.emod_nonneg ((digS f.P f.M.toNat x).getD j 0 + (digS f.P f.M.toNat y).getD j 0) (show f.P ≠ 0 by omega)
  have h2 := Int.emod_lt_of_pos ((digS f.P f.M.toNat x).getD j 0 + (digS f.P f.M.toNat y).getD j 0) (show 0 < f.P by omega)
  exact fin_val_int h1 (by omega)
 ·rw [List.getElem?_eq_none (by rw [length_dl]; omega), List.getElem?_eq_none (by rw [length_dadd]; omega)]
theorem wadd_two : ∀ (n a b : Nat), a < 2 ^ n → b < 2 ^ n → wadd 2 n a b = ((a ^^^ b : Nat) : Int)
 | 0, a, b, ha, hb => by
  have h1 : a = 0 := by omega
  have h2 : b = 0 := by omega
  subst h1 h2; rfl
 | n + 1, a, b, ha, hb => by
  have h1 : a / 2 < 2 ^ n := by rw [Nat.pow_succ] at ha; omega
  have h2 : b / 2 < 2 ^ n := by rw [Nat.pow_succ] at hb; omega
  have ih := wadd_two n (a / 2) (b / 2) h1 h2
  have e1 : (a ^^^ b) / 2 = a / 2 ^^^ b / 2 := Nat.xor_div_two
  have e2 : (a ^^^ b) % 2 = (a + b) % 2 := by
   have := @Nat.xor_mod_two_eq_one a b
   omega
  simp only [wadd]
  rw [show ((a : Int) / 2) = ((a / 2 : Nat) : Int) by omega, show ((b : Int) / 2) = ((b / 2 : Nat) : Int) by omega, ih, ← e1]
  omega
theorem Shape.addF_xor {f : Fld} (h : Shape f) (h2 : f.P = 2) (x y : Int) : (((inF f x).toNat ^^^ (inF f y).toNat : Nat) : Int) = addF f x y := by
 have hb := h.bd
 have hx := inF_lt h x
 have hy := inF_lt h y
 have hq : f.q = 2 ^ f.M.toNat := by rw [hb.2.2.2.2.1, h2]
 unfold addF
 rw [h.addc_wadd, h2]
 have e : ((2 ^ f.M.toNat : Nat) : Int) = (2 : Int) ^ f.M.toNat := by simp
 rw [← wadd_two f.M.toNat _ _ (by omega) (by omega), show (((inF f x).toNat : Nat) : Int) = inF f x by omega, show (((inF f y).toNat : Nat) : Int) = inF f y by omega]
def dotTo (f : Fld) (a b : List Int) : Nat → Int
 | 0 => 0
 | n + 1 => addF f (dotTo f a b n) (mulF f (ix 0 a n) (ix 0 b n))
def dotF (f : Fld) (a b : List Int) : Int := dotTo f a b (min a.length b.length)
theorem dotTo_succ (f : Fld) (a b : List Int) {i : Int} (h : 0 ≤ i) : dotTo f a b (i + 1).toNat = addF f (dotTo f a b i.toNat) (mulF f (ix 0 a i) (ix 0 b i)) := by
 rw [show (i + 1).toNat = i.toNat + 1 by omega]
 simp only [dotTo]
 rw [show ((i.toNat : Nat) : Int) = i by omega]
end Go.Cw
namespace Go.Cw
theorem mulF_zero {f : Fld} (h : Shape f) {x y : Int} (hz : inF f x = 0 ∨ inF f y = 0) : mulF f x y = 0 := by
 unfold mulF Rg.mulc
 rcases hz with hz | hz
 ·rw [hz, Rg.elt_zero, Rg.mul_zero]; exact Rg.num_zero f.R
 ·rw [hz, Rg.elt_zero, Rg.mul_zero_left]; exact Rg.num_zero f.R
theorem pow_le_q {w p q : Int} (h : w * p = q) (hw : 1 ≤ w) (hp : 1 ≤ p) : p ≤ q := by
 have := Int.mul_le_mul_of_nonneg_right hw (show 0 ≤ p by omega)
 omega
def mixL (l r : List Int) (i : Int) : List Int := l.take i.toNat ++ r.drop i.toNat
theorem mixL_zero (l r : List Int) : mixL l r 0 = r := by simp [mixL]
theorem mixL_all (l r : List Int) {i : Int} (h : l.length ≤ i) (h2 : r.length ≤ i) : mixL l r i = l := by
 unfold mixL; rw [List.take_of_length_le (by omega), List.drop_of_length_le (by omega), List.append_nil]
theorem length_mixL (l r : List Int) {i : Int} (h : l.length = r.length) : (mixL l r i).length = r.length := by
 unfold mixL; simp; omega
theorem ix_mixL (l r : List Int) {i : Int} (h0 : 0 ≤ i) (h1 : i < r.length) (h : l.length = r.length) : ix 0 (mixL l r i) i = ix 0 r i := by
 unfold mixL ix
 simp only [List.getD]
 rw [List.getElem?_append_right (by simp; omega)]
 simp only [List.length_take, List.getElem?_drop]
 rw [show i.toNat + (i.toNat - min i.toNat l.length) = i.toNat by omega]
theorem mixL_set (l r : List Int) {i v : Int} (h0 : 0 ≤ i) (h1 : i < r.length) (h : l.length = r.length) (hv : v = ix 0 l i) : (mixL l r i).set i.toNat v = mixL l r (i + 1) := by
 have hl : i.toNat < l.length := by omega
 unfold mixL
 have e : (l.take i.toNat).length = i.toNat := by simp; omega
 have e2 : l[i.toNat]?.toList = [ix 0 l i] := by simp [ix, List.getD, hl]
 rw [show (i + 1).toNat = i.toNat + 1 by omega, List.set_append_right _ _ (by simp; omega), hv]
 rw [e, Nat.sub_self, List.drop_eq_getElem_cons (show i.toNat < r.length by omega), List.set_cons_zero, List.take_add_one, e2, List.append_assoc]
 rfl
theorem ix_dadd (p : Int) (n : Nat) (x y : Int) {i : Int} (h0 : 0 ≤ i) (h1 : i < n) : ix 0 (dadd p n x y) i = (ix 0 (digS p n x) i + ix 0 (digS p n y) i) % p := by
 have := getElem?_dadd p n x y i.toNat (by omega)
 unfold ix
 simp only [List.getD, this, Option.getD_some]
theorem dadd_mem (p : Int) (hp : 2 ≤ p) : ∀ (n : Nat) (x y : Int), ∀ c ∈ dadd p n x y, 0 ≤ c ∧ c < p
 | 0, _, _, c, h => by simp [dadd] at h
 | n + 1, x, y, c, h => by
  rcases List.mem_cons.1 h with h1 | h1
  ·rw [h1]; exact ⟨Int.emod_nonneg _ (by omega), Int.emod_lt_of_pos _ (by omega)⟩
  ·exact dadd_mem p hp n _ _ c h1
end Go.Cw
set_option linter.unusedVariables false
set_option linter.unusedSimpArgs false
set_option linter.unusedSectionVars false
namespace Go.Cw
namespace La
variable {K : Type} [Fi K]
def sm (g : Nat → K) : Nat → K
 | 0 => 0
 | n + 1 => sm g n + g n
theorem sm_congr {g h : Nat → K} : ∀ {n : Nat}, (∀ i, i < n → g i = h i) → sm g n = sm h n
 | 0, _ => rfl
 | n + 1, e => by
  show sm g n + g n = sm h n + h n
  rw [sm_congr fun i hi => e i (by omega), e n (by omega)]
theorem sm_zero {g : Nat → K} : ∀ {n : Nat}, (∀ i, i < n → g i = 0) → sm g n = 0
 | 0, _ => rfl
 | n + 1, e => by
  show sm g n + g n = 0
  rw [sm_zero fun i hi => e i (by omega), e n (by omega), Fi.add_zero]
theorem sm_add (g h : Nat → K) : ∀ n : Nat, sm (fun i => g i + h i) n = sm g n + sm h n
 | 0 => (Fi.add_zero 0).symm
 | n + 1 => by
  show sm (fun i => g i + h i) n + (g n + h n) = (sm g n + g n) + (sm h n + h n)
  rw [sm_add g h n]
  ac_rfl
theorem sm_mul (a : K) (g : Nat → K) : ∀ n : Nat, sm (fun i => a * g i) n = a * sm g n
 | 0 => (Fi.mul_zero a).symm
 | n + 1 => by
  show sm (fun i => a * g i) n + a * g n = a * (sm g n + g n)
  rw [sm_mul a g n, Fi.mul_add]
theorem sm_mulR (a : K) (g : Nat → K) (n : Nat) : sm (fun i => g i * a) n = sm g n * a := by
 rw [Fi.mul_comm, ← sm_mul]
 exact sm_congr fun i _ => Fi.mul_comm _ _
theorem sm_neg (g : Nat → K) : ∀ n : Nat, sm (fun i => -(g i)) n = -(sm g n)
 | 0 => Fi.neg_zero.symm
 | n + 1 => by
  show sm (fun i => -(g i)) n + -(g n) = -(sm g n + g n)
  rw [sm_neg g n, Fi.neg_add_rev]
theorem sm_one {g : Nat → K} {k : Nat} : ∀ {n : Nat}, k < n → (∀ i, i < n → i ≠ k → g i = 0) → sm g n = g k
 | n + 1, hk, h => by
  show sm g n + g n = g k
  by_cases e : k = n
  ·subst e
   rw [sm_zero fun i hi => h i (by omega) (by omega), Fi.zero_add]
  ·rw [sm_one (k := k) (n := n) (by omega) fun i hi hn => h i (by omega) hn, h n (by omega) (Ne.symm e), Fi.add_zero]
theorem sm_swap (g : Nat → Nat → K) (m : Nat) : ∀ n : Nat, sm (fun i => sm (fun j => g i j) m) n = sm (fun j => sm (fun i => g i j) n) m
 | 0 => (sm_zero fun _ _ => rfl).symm
 | n + 1 => by
  show sm (fun i => sm (fun j => g i j) m) n + sm (fun j => g n j) m = sm (fun j => sm (fun i => g i j) n + g n j) m
  rw [sm_swap g m n, sm_add]
theorem sm_ne {g : Nat → K} : ∀ {n : Nat}, sm g n ≠ 0 → ∃ i, i < n ∧ g i ≠ 0
 | 0, h => absurd rfl h
 | n + 1, h => by
  by_cases hn : g n = 0
  ·have h2 : sm g n ≠ 0 := fun e => h (by show sm g n + g n = 0; rw [e, hn, Fi.add_zero])
   obtain ⟨i, hi, hg⟩ := sm_ne h2
   exact ⟨i, by omega, hg⟩
  ·exact ⟨n, by omega, hn⟩
def lin (c : Nat → K) (A : Nat → Nat → K) (m : Nat) : Nat → K := fun j => sm (fun i => c i * A i j) m
def Span (A : Nat → Nat → K) (m : Nat) (v : Nat → K) : Prop := ∃ c, v = lin c A m
variable {A B : Nat → Nat → K} {m n : Nat} {u v : Nat → K}
theorem Span.zero : Span A m (fun _ => 0) := ⟨fun _ => 0, by funext j; exact (sm_zero fun i _ => Fi.zero_mul _).symm⟩
theorem Span.mem {i : Nat} (hi : i < m) : Span A m (A i) := ⟨fun k => if k = i then 1 else 0, by
 funext j
 show _ = sm _ m
 rw [sm_one hi fun k _ hk => by simp only [if_neg hk]; exact Fi.zero_mul _]
 simp only [if_true]
 exact (Fi.one_mul _).symm⟩
theorem Span.add (hu : Span A m u) (hv : Span A m v) : Span A m (fun j => u j + v j) := by
 obtain ⟨c, rfl⟩ := hu
 obtain ⟨d, rfl⟩ := hv
 refine ⟨fun i => c i + d i, ?_⟩
 funext j
 show sm _ m + sm _ m = sm _ m
 rw [← sm_add]
 exact sm_congr fun i _ => (Fi.add_mul _ _ _).symm
theorem Span.smul (a : K) (hu : Span A m u) : Span A m (fun j => a * u j) := by
 obtain ⟨c, rfl⟩ := hu
 refine ⟨fun i => a * c i, ?_⟩
 funext j
 show a * sm _ m = sm _ m
 rw [← sm_mul]
 exact sm_congr fun i _ => (Fi.mul_assoc _ _ _).symm
theorem Span.congr (hu : Span A m u) (e : ∀ j, u j = v j) : Span A m v := by
 have : u = v := funext e
 rw [← this]; exact hu
theorem Span.lin {c : Nat → K} : ∀ {k : Nat}, (∀ i, i < k → Span A m (B i)) → Span A m (lin c B k)
 | 0, _ => Span.zero
 | k + 1, h => ((Span.lin (k := k) fun i hi => h i (by omega)).add ((h k (by omega)).smul (c k))).congr fun j => rfl
theorem Span.trans {k : Nat} (hv : Span B k v) (h : ∀ i, i < k → Span A m (B i)) : Span A m v := by
 obtain ⟨c, rfl⟩ := hv
 exact Span.lin h
theorem Span.ind {Φ : (Nat → K) → Prop} (h0 : Φ fun _ => 0) (ha : ∀ u v, Φ u → Φ v → Φ fun j => u j + v j) (hs : ∀ (a : K) u, Φ u → Φ fun j => a * u j) : ∀ {m : Nat}, (∀ i, i < m → Φ (A i)) → ∀ v, Span A m v → Φ v
 | 0, _, v, ⟨c, e⟩ => by rw [e]; exact h0
 | m + 1, h, v, ⟨c, e⟩ => by
  rw [e]
  exact ha _ _ (Span.ind h0 ha hs (m := m) (fun i hi => h i (by omega)) _ ⟨c, rfl⟩) (hs (c m) _ (h m (by omega)))
structure Rref (A : Nat → Nat → K) (m n : Nat) (p : Nat → Nat) (r : Nat) : Prop where
 le : r ≤ m
 inc : ∀ i j, i < j → j < r → p i < p j
 lt : ∀ i, i < r → p i < n
 one : ∀ i, i < r → A i (p i) = 1
 clr : ∀ i j, i < r → j < m → j ≠ i → A j (p i) = 0
 lead : ∀ i x, i < r → x < p i → A i x = 0
 rest : ∀ j x, r ≤ j → j < m → x < n → A j x = 0
variable {p p' : Nat → Nat} {r r' m' : Nat}
theorem sm_cut {g : Nat → K} {r : Nat} : ∀ {m : Nat}, r ≤ m → (∀ i, r ≤ i → i < m → g i = 0) → sm g m = sm g r
 | 0, h, _ => by rw [show r = 0 by omega]
 | m + 1, h, hz => by
  by_cases e : r = m + 1
  ·rw [e]
  ·show sm g m + g m = _
   rw [sm_cut (m := m) (by omega) fun i h1 h2 => hz i h1 (by omega), hz m (by omega) (by omega), Fi.add_zero]
theorem Rref.coef (h : Rref A m n p r) {c : Nat → K} {i : Nat} (hi : i < r) : lin c A m (p i) = c i := by
 show sm _ m = _
 rw [sm_one (k := i) (by have := h.le; omega) fun j hj hne => by rw [h.clr i j hi hj hne, Fi.mul_zero], h.one i hi, Fi.mul_one]
theorem Rref.span (h : Rref A m n p r) (hv : Span A m v) {x : Nat} (hx : x < n) : v x = lin (fun i => v (p i)) A r x := by
 obtain ⟨c, rfl⟩ := hv
 show sm _ m = sm _ r
 rw [sm_cut h.le fun i h1 h2 => by rw [h.rest i x h1 h2 hx, Fi.mul_zero]]
 exact sm_congr fun i hi => by show c i * _ = lin c A m (p i) * _; rw [h.coef hi]
theorem Rref.lead_piv (h : Rref A m n p r) (hv : Span A m v) {x : Nat} (hx : x < n) (h0 : v x ≠ 0) (hl : ∀ y, y < x → v y = 0) : ∃ i, i < r ∧ p i = x := by
 rw [h.span hv hx] at h0
 obtain ⟨i, hi, hg⟩ := sm_ne h0
 refine ⟨i, hi, ?_⟩
 have h1 : ¬ p i < x := fun hlt => hg (by show v (p i) * _ = 0; rw [hl _ hlt, Fi.zero_mul])
 have h2 : ¬ x < p i := fun hlt => hg (by show v (p i) * _ = 0; rw [h.lead i x hi hlt, Fi.mul_zero])
 omega
def Sub (A : Nat → Nat → K) (m : Nat) (B : Nat → Nat → K) (m' n : Nat) : Prop := ∀ i, i < m → ∃ v, Span B m' v ∧ ∀ x, x < n → A i x = v x
theorem Sub.of (h : ∀ i, i < m → Span B m' (A i)) : Sub A m B m' n := fun i hi => ⟨_, h i hi, fun _ _ => rfl⟩
theorem Rref.sub (h : Rref A m n p r) (h' : Rref B m' n p' r') (hs : Sub A m B m' n) : ∀ i, i < r → ∃ i', i' < r' ∧ p' i' = p i := by
 intro i hi
 obtain ⟨v, hv, e⟩ := hs i (by have := h.le; omega)
 refine h'.lead_piv hv (h.lt i hi) ?_ fun y hy => ?_
 ·rw [← e _ (h.lt i hi), h.one i hi]; exact Fi.one_ne
 ·rw [← e y (by have := h.lt i hi; omega), h.lead i y hi hy]
theorem Rref.inj (h : Rref A m n p r) {i j : Nat} (hi : i < r) (hj : j < r) (e : p i = p j) : i = j := by
 rcases Nat.lt_trichotomy i j with hl | hl | hl
 ·have := h.inc i j hl hj; omega
 ·exact hl
 ·have := h.inc j i hl hi; omega
theorem Rref.index (h : Rref A m n p r) (h' : Rref B m' n p' r') (hs : Sub A m B m' n) : ∀ i, i < r → ∃ i', i ≤ i' ∧ i' < r' ∧ p' i' = p i := by
 intro i
 induction i with
 | zero =>
  intro hi
  obtain ⟨i', h1, h2⟩ := h.sub h' hs 0 hi
  exact ⟨i', by omega, h1, h2⟩
 | succ i ih =>
  intro hi
  obtain ⟨j', a1, a2, a3⟩ := ih (by omega)
  obtain ⟨i', h1, h2⟩ := h.sub h' hs (i + 1) hi
  refine ⟨i', ?_, h1, h2⟩
  have hinc := h.inc i (i + 1) (by omega) hi
  rcases Nat.lt_trichotomy i' j' with hl | hl | hl
  ·have := h'.inc i' j' hl a2; omega
  ·rw [hl] at h2; omega
  ·omega
theorem Rref.rank_le (h : Rref A m n p r) (h' : Rref B m' n p' r') (hs : Sub A m B m' n) : r ≤ r' := by
 by_cases hr : r = 0
 ·omega
 ·obtain ⟨i', a1, a2, _⟩ := h.index h' hs (r - 1) (by omega)
  omega
theorem Rref.uniq (h : Rref A m n p r) (h' : Rref B m' n p' r') (hs : Sub A m B m' n) (hs' : Sub B m' A m n) : r = r' ∧ (∀ i, i < r → p i = p' i) ∧ ∀ i x, i < r → x < n → A i x = B i x := by
 have e1 := h.rank_le h' hs
 have e2 := h'.rank_le h hs'
 have er : r = r' := by omega
 subst er
 have hp : ∀ i, i < r → p i = p' i := by
  intro i hi
  obtain ⟨i', a1, a2, a3⟩ := h.index h' hs i hi
  obtain ⟨i2, b1, b2, b3⟩ := h'.index h hs' i' a2
  have : i2 = i := h.inj b2 hi (by rw [b3, a3])
  have : i' = i := by omega
  rw [← a3, this]
 refine ⟨rfl, hp, fun i x hi hx => ?_⟩
 obtain ⟨v, hv, e⟩ := hs i (by have := h.le; omega)
 rw [e x hx, h'.span hv hx]
 show sm _ r = _
 rw [sm_one (k := i) hi fun j hj hne => ?_]
 ·show v (p' i) * _ = _
  rw [← hp i hi, ← e _ (h.lt i hi), h.one i hi, Fi.one_mul]
 ·show v (p' j) * _ = 0
  rw [← hp j hj, ← e _ (h.lt j hj), h.clr j i hj (by have := h.le; omega) (Ne.symm hne), Fi.zero_mul]
def colA (A C : Nat → Nat → K) (p k c : Nat) : Nat → Nat → K := fun i j =>
 if i = p then Fi.inv (A k c) * C k j else (if i = k then C p j else C i j) + -(if i = k then A p c else A i c) * (Fi.inv (A k c) * C k j)
theorem colA_p (A C : Nat → Nat → K) (p k c j : Nat) : colA A C p k c p j = Fi.inv (A k c) * C k j := by unfold colA; rw [if_pos rfl]
theorem Rref.zero (A : Nat → Nat → K) (m : Nat) (p : Nat → Nat) : Rref A m 0 p 0 := ⟨Nat.zero_le _, fun _ _ _ h => by omega, fun _ h => by omega, fun _ h => by omega, fun _ _ h => by omega, fun _ _ h => by omega, fun _ _ _ _ h => by omega⟩
theorem Rref.skip (h : Rref A m n p r) (hz : ∀ j, r ≤ j → j < m → A j n = 0) : Rref A m (n + 1) p r :=
 ⟨h.le, h.inc, fun i hi => by have := h.lt i hi; omega, h.one, h.clr, h.lead, fun j x h1 h2 h3 => by
  by_cases e : x = n
  ·rw [e]; exact hz j h1 h2
  ·exact h.rest j x h1 h2 (by omega)⟩
theorem Rref.step (h : Rref A m n p r) {k : Nat} (hr : r ≤ k) (hk : k < m) (hne : A k n ≠ 0) (hp : p' r = n) (hp2 : ∀ i, i < r → p' i = p i) (hB : ∀ i j, i < m → B i j = colA A A r k n i j) : Rref B m (n + 1) p' (r + 1) := by
 have hP : ∀ x, x < n → Fi.inv (A k n) * A k x = 0 := fun x hx => by rw [h.rest k x hr hk hx, Fi.mul_zero]
 have hPn : Fi.inv (A k n) * A k n = 1 := Fi.inv_mul _ hne
 have hBp : ∀ j, B r j = Fi.inv (A k n) * A k j := fun j => by rw [hB r j (by omega), colA_p]
 have hBi : ∀ i j, i < m → i ≠ r → B i j = (if i = k then A r j else A i j) + -(if i = k then A r n else A i n) * (Fi.inv (A k n) * A k j) := fun i j hi hne => by rw [hB i j hi]; unfold colA; rw [if_neg hne]
 have hBx : ∀ i x, i < m → i ≠ r → x < n → B i x = if i = k then A r x else A i x := fun i x hi hne hx => by rw [hBi i x hi hne, hP x hx, Fi.mul_zero, Fi.add_zero]
 have hplt : ∀ i, i < r + 1 → p' i < n + 1 := fun i hi => by
  by_cases e : i = r
  ·rw [e, hp]; omega
  ·rw [hp2 i (by omega)]; have := h.lt i (by omega); omega
 refine ⟨by omega, fun i j hij hj => ?_, hplt, fun i hi => ?_, fun i j hi hj hne => ?_, fun i x hi hx => ?_, fun j x h1 h2 h3 => ?_⟩
 ·by_cases e : j = r
  ·subst e; rw [hp, hp2 i hij]; exact h.lt i hij
  ·rw [hp2 i (by omega), hp2 j (by omega)]; exact h.inc i j hij (by omega)
 ·by_cases e : i = r
  ·subst e; rw [hp, hBp, hPn]
  ·have hi2 : i < r := by omega
   have hl := h.lt i hi2
   rw [hp2 i hi2, hBx i _ (by omega) e hl, if_neg (by omega)]
   exact h.one i hi2
 ·by_cases e : i = r
  ·subst e
   rw [hp, hBi j n hj hne, hPn, Fi.mul_one, Fi.add_neg]
  ·have hi2 : i < r := by omega
   have hl := h.lt i hi2
   rw [hp2 i hi2]
   by_cases ej : j = r
   ·subst ej; rw [hBp]; exact hP _ hl
   ·rw [hBx j _ hj ej hl]
    split
    ·exact h.clr i r hi2 (by omega) (by omega)
    ·exact h.clr i j hi2 hj hne
 ·by_cases e : i = r
  ·subst e; rw [hp] at hx; rw [hBp]; exact hP x hx
  ·have hi2 : i < r := by omega
   have hl := h.lt i hi2
   rw [hp2 i hi2] at hx
   rw [hBx i x (by omega) e (by omega), if_neg (by omega)]
   exact h.lead i x hi2 hx
 ·by_cases e : x = n
  ·subst e
   rw [hBi j x h2 (by omega), hPn, Fi.mul_one, Fi.add_neg]
  ·rw [hBx j x h2 (by omega) (by omega)]
   split
   ·exact h.rest r x (Nat.le_refl _) (by omega) (by omega)
   ·exact h.rest j x (by omega) h2 (by omega)
def idm (i j : Nat) : K := if i = j then 1 else 0
theorem Rref.full (h : Rref A m m p m) : (∀ i, i < m → p i = i) ∧ ∀ i j, i < m → j < m → A i j = idm i j := by
 have hp : ∀ i, i < m → p i = i := by
  have lo : ∀ i, i < m → i ≤ p i := by
   intro i
   induction i with
   | zero => intro _; omega
   | succ i ih => intro hi; have := ih (by omega); have := h.inc i (i + 1) (by omega) hi; omega
  have hi : ∀ d i, i + d + 1 = m → p i ≤ i := by
   intro d
   induction d with
   | zero => intro i hi; have := h.lt i (by omega); omega
   | succ d ih => intro i hi; have := ih (i + 1) (by omega); have := h.inc i (i + 1) (by omega) (by omega); omega
  intro i hlt
  have a := lo i hlt
  have b := hi (m - i - 1) i (by omega)
  omega
 refine ⟨hp, fun i j hi hj => ?_⟩
 unfold idm
 by_cases e : i = j
 ·subst e
  rw [if_pos rfl]
  have := h.one i hi
  rwa [hp i hi] at this
 ·rw [if_neg e]
  have := h.clr j i hj hi e
  rwa [hp j hj] at this
end La
end Go.Cw
set_option linter.unusedVariables false
set_option linter.unusedSimpArgs false
set_option linter.unusedSectionVars false
namespace Go.Cw
class Ri (K : Type) extends Zero K, _root_.One K, Add K, Mul K, Neg K where
 add_assoc : ∀ a b c : K, a + b + c = a + (b + c)
 add_comm : ∀ a b : K, a + b = b + a
 zero_add : ∀ a : K, 0 + a = a
 neg_add : ∀ a : K, -a + a = 0
 mul_assoc : ∀ a b c : K, a * b * c = a * (b * c)
 mul_comm : ∀ a b : K, a * b = b * a
 one_mul : ∀ a : K, 1 * a = a
 mul_add : ∀ a b c : K, a * (b + c) = a * b + a * c
namespace Ri
variable {K : Type} [Ri K]
instance : Sub K := ⟨fun a b => a + -b⟩
theorem sub_eq (a b : K) : a - b = a + -b := rfl
theorem add_left_comm (a b c : K) : a + (b + c) = b + (a + c) := by rw [← add_assoc, add_comm a b, add_assoc]
theorem mul_left_comm (a b c : K) : a * (b * c) = b * (a * c) := by rw [← mul_assoc, mul_comm a b, mul_assoc]
theorem add_zero (a : K) : a + 0 = a := by rw [add_comm, zero_add]
theorem add_neg (a : K) : a + -a = 0 := by rw [add_comm, neg_add]
theorem mul_one (a : K) : a * 1 = a := by rw [mul_comm, one_mul]
theorem add_mul (a b c : K) : (a + b) * c = a * c + b * c := by rw [mul_comm, mul_add, mul_comm c a, mul_comm c b]
theorem add_left_cancel {a b c : K} (h : a + b = a + c) : b = c := by
 have := congrArg (-a + ·) h
 simp only [← add_assoc, neg_add, zero_add] at this; exact this
theorem add_neg_cancel_left (a b : K) : a + (-a + b) = b := by rw [← add_assoc, add_neg, zero_add]
theorem mul_zero (a : K) : a * 0 = 0 := by
 apply add_left_cancel (a := a * 0)
 rw [← mul_add, zero_add, add_zero]
theorem zero_mul (a : K) : 0 * a = 0 := by rw [mul_comm, mul_zero]
theorem neg_unique {a b : K} (h : a + b = 0) : b = -a := by
 apply add_left_cancel (a := a); rw [h, add_neg]
theorem mul_neg (a b : K) : a * -b = -(a * b) := neg_unique (by rw [← mul_add, add_neg, mul_zero])
theorem neg_mul (a b : K) : -a * b = -(a * b) := by rw [mul_comm, mul_neg, mul_comm]
theorem neg_neg (a : K) : - -a = a := (neg_unique (neg_add a)).symm
theorem neg_zero : -(0 : K) = 0 := (neg_unique (add_zero 0)).symm
theorem neg_add_rev (a b : K) : -(a + b) = -a + -b := (neg_unique (by
 rw [add_assoc, add_left_comm b, ← add_assoc a, add_neg, add_neg, zero_add])).symm
theorem sub_self (a : K) : a - a = 0 := add_neg a
theorem eq_of_sub {a b : K} (h : a - b = 0) : a = b := by
 have := neg_unique h
 have h2 := congrArg (fun x => - x) this
 simp only [neg_neg] at h2; exact h2.symm
instance : Std.Associative (α := K) (· + ·) := ⟨add_assoc⟩
instance : Std.Commutative (α := K) (· + ·) := ⟨add_comm⟩
instance : Std.Associative (α := K) (· * ·) := ⟨mul_assoc⟩
instance : Std.Commutative (α := K) (· * ·) := ⟨mul_comm⟩
end Ri
namespace Lr
variable {K : Type} [Ri K]
def sm (g : Nat → K) : Nat → K
 | 0 => 0
 | n + 1 => sm g n + g n
theorem sm_congr {g h : Nat → K} : ∀ {n : Nat}, (∀ i, i < n → g i = h i) → sm g n = sm h n
 | 0, _ => rfl
 | n + 1, e => by
  show sm g n + g n = sm h n + h n
  rw [sm_congr fun i hi => e i (by omega), e n (by omega)]
theorem sm_zero {g : Nat → K} : ∀ {n : Nat}, (∀ i, i < n → g i = 0) → sm g n = 0
 | 0, _ => rfl
 | n + 1, e => by
  show sm g n + g n = 0
  rw [sm_zero fun i hi => e i (by omega), e n (by omega), Ri.add_zero]
theorem sm_add (g h : Nat → K) : ∀ n : Nat, sm (fun i => g i + h i) n = sm g n + sm h n
 | 0 => (Ri.add_zero 0).symm
 | n + 1 => by
  show sm (fun i => g i + h i) n + (g n + h n) = (sm g n + g n) + (sm h n + h n)
  rw [sm_add g h n]
  ac_rfl
theorem sm_mul (a : K) (g : Nat → K) : ∀ n : Nat, sm (fun i => a * g i) n = a * sm g n
 | 0 => (Ri.mul_zero a).symm
 | n + 1 => by
  show sm (fun i => a * g i) n + a * g n = a * (sm g n + g n)
  rw [sm_mul a g n, Ri.mul_add]
theorem sm_mulR (a : K) (g : Nat → K) (n : Nat) : sm (fun i => g i * a) n = sm g n * a := by
 rw [Ri.mul_comm, ← sm_mul]
 exact sm_congr fun i _ => Ri.mul_comm _ _
theorem sm_neg (g : Nat → K) : ∀ n : Nat, sm (fun i => -(g i)) n = -(sm g n)
 | 0 => Ri.neg_zero.symm
 | n + 1 => by
  show sm (fun i => -(g i)) n + -(g n) = -(sm g n + g n)
  rw [sm_neg g n, Ri.neg_add_rev]
theorem sm_one {g : Nat → K} {k : Nat} : ∀ {n : Nat}, k < n → (∀ i, i < n → i ≠ k → g i = 0) → sm g n = g k
 | n + 1, hk, h => by
  show sm g n + g n = g k
  by_cases e : k = n
  ·subst e
   rw [sm_zero fun i hi => h i (by omega) (by omega), Ri.zero_add]
  ·rw [sm_one (k := k) (n := n) (by omega) fun i hi hn => h i (by omega) hn, h n (by omega) (Ne.symm e), Ri.add_zero]
theorem sm_swap (g : Nat → Nat → K) (m : Nat) : ∀ n : Nat, sm (fun i => sm (fun j => g i j) m) n = sm (fun j => sm (fun i => g i j) n) m
 | 0 => (sm_zero fun _ _ => rfl).symm
 | n + 1 => by
  show sm (fun i => sm (fun j => g i j) m) n + sm (fun j => g n j) m = sm (fun j => sm (fun i => g i j) n + g n j) m
  rw [sm_swap g m n, sm_add]
theorem sm_ne {g : Nat → K} : ∀ {n : Nat}, sm g n ≠ 0 → ∃ i, i < n ∧ g i ≠ 0
 | 0, h => absurd rfl h
 | n + 1, h => by
  by_cases hn : g n = 0
  ·have h2 : sm g n ≠ 0 := fun e => h (by show sm g n + g n = 0; rw [e, hn, Ri.add_zero])
   obtain ⟨i, hi, hg⟩ := sm_ne h2
   exact ⟨i, by omega, hg⟩
  ·exact ⟨n, by omega, hn⟩
def sg (c : Nat) : K := if c % 2 = 1 then -1 else 1
def sk (c j : Nat) : Nat := if j < c then j else j + 1
def det : Nat → (Nat → Nat → K) → K
 | 0, _ => 1
 | n + 1, A => sm (fun c => sg c * (A 0 c * det n (fun i j => A (i + 1) (sk c j)))) (n + 1)
theorem det_succ (n : Nat) (A : Nat → Nat → K) : det (n + 1) A = sm (fun c => sg c * (A 0 c * det n (fun i j => A (i + 1) (sk c j)))) (n + 1) := rfl
theorem det_congr : ∀ {n : Nat} {A B : Nat → Nat → K}, (∀ i j, i < n → j < n → A i j = B i j) → det n A = det n B
 | 0, _, _, _ => rfl
 | n + 1, A, B, h => by
  rw [det_succ, det_succ]
  refine sm_congr fun c hc => ?_
  rw [h 0 c (by omega) hc, det_congr (n := n) (B := fun i j => B (i + 1) (sk c j)) fun i j hi hj => h (i + 1) (sk c j) (by omega) (by unfold sk; split <;> omega)]
theorem det_lin : ∀ {n : Nat} {A B C : Nat → Nat → K} (q : Nat) (x : K), q < n → (∀ i j, j ≠ q → C i j = A i j) → (∀ i j, j ≠ q → B i j = A i j) → (∀ i, C i q = A i q + x * B i q) → det n C = det n A + x * det n B
 | 0, _, _, _, q, x, hq, _, _, _ => by omega
 | n + 1, A, B, C, q, x, hq, hC, hB, hx => by
  rw [det_succ, det_succ, det_succ, ← sm_mul, ← sm_add]
  refine sm_congr fun c hc => ?_
  by_cases e : c = q
  ·subst e
   have e1 : det n (fun i j => C (i + 1) (sk c j)) = det n (fun i j => A (i + 1) (sk c j)) := det_congr fun i j _ _ => hC _ _ (by unfold sk; split <;> omega)
   have e2 : det n (fun i j => B (i + 1) (sk c j)) = det n (fun i j => A (i + 1) (sk c j)) := det_congr fun i j _ _ => hB _ _ (by unfold sk; split <;> omega)
   rw [e1, e2, hx 0, Ri.add_mul, Ri.mul_add]
   congr 1
   ac_rfl
  ·have hq' : (if q < c then q else q - 1) < n := by split <;> omega
   have hsk : ∀ j, sk c j = q ↔ j = (if q < c then q else q - 1) := fun j => by unfold sk; split <;> split <;> omega
   have ih := det_lin (n := n) (A := fun i j => A (i + 1) (sk c j)) (B := fun i j => B (i + 1) (sk c j)) (C := fun i j => C (i + 1) (sk c j)) (if q < c then q else q - 1) x hq'
    (fun i j hj => hC _ _ fun e => hj ((hsk j).1 e)) (fun i j hj => hB _ _ fun e => hj ((hsk j).1 e)) (fun i => by
     have e : sk c (if q < c then q else q - 1) = q := (hsk _).2 rfl
     show C (i + 1) (sk c _) = A (i + 1) (sk c _) + x * B (i + 1) (sk c _)
     rw [e]; exact hx _)
   rw [ih, hC 0 c e, hB 0 c e, Ri.mul_add, Ri.mul_add]
   congr 1
   ac_rfl
theorem sg_succ (c : Nat) : (sg (c + 1) : K) = -(sg c) := by
 unfold sg
 by_cases h : c % 2 = 1
 ·rw [if_pos h, if_neg (by omega), Ri.neg_neg]
 ·rw [if_neg h, if_pos (by omega)]
theorem sm_two {g : Nat → K} {q : Nat} : ∀ {n : Nat}, q + 1 < n → (∀ i, i < n → i ≠ q → i ≠ q + 1 → g i = 0) → sm g n = g q + g (q + 1)
 | n + 1, hq, h => by
  show sm g n + g n = _
  by_cases e : n = q + 1
  ·subst e
   rw [sm_one (k := q) (by omega) fun i hi hne => h i (by omega) hne (by omega)]
  ·rw [sm_two (q := q) (n := n) (by omega) fun i hi h1 h2 => h i (by omega) h1 h2, h n (by omega) (by omega) e, Ri.add_zero]
theorem det_adj : ∀ {n : Nat} {A : Nat → Nat → K} (q : Nat), q + 1 < n → (∀ i, A i q = A i (q + 1)) → det n A = 0
 | 0, _, q, h, _ => by omega
 | n + 1, A, q, hq, h => by
  rw [det_succ, sm_two (q := q) hq fun c hc h1 h2 => ?_]
  ·have e : det n (fun i j => A (i + 1) (sk (q + 1) j)) = det n (fun i j => A (i + 1) (sk q j)) := det_congr fun i j _ _ => by
    by_cases ej : j = q
    ·subst ej
     show A (i + 1) (sk (j + 1) j) = A (i + 1) (sk j j)
     rw [show sk (j + 1) j = j by unfold sk; rw [if_pos (by omega)], show sk j j = j + 1 by unfold sk; rw [if_neg (by omega)]]
     exact h _
    ·show A (i + 1) (sk (q + 1) j) = A (i + 1) (sk q j)
     rw [show sk (q + 1) j = sk q j by unfold sk; split <;> split <;> omega]
   rw [e, ← h 0, sg_succ, Ri.neg_mul, Ri.add_neg]
  ·have hz : det n (fun i j => A (i + 1) (sk c j)) = 0 := by
    by_cases hcq : c < q
    ·refine det_adj (n := n) (q - 1) (by omega) fun i => ?_
     show A (i + 1) (sk c (q - 1)) = A (i + 1) (sk c (q - 1 + 1))
     rw [show sk c (q - 1) = q by unfold sk; split <;> omega, show sk c (q - 1 + 1) = q + 1 by unfold sk; split <;> omega]
     exact h _
    ·refine det_adj (n := n) q (by omega) fun i => ?_
     show A (i + 1) (sk c q) = A (i + 1) (sk c (q + 1))
     rw [show sk c q = q by unfold sk; split <;> omega, show sk c (q + 1) = q + 1 by unfold sk; split <;> omega]
     exact h _
   show sg c * (A 0 c * _) = 0
   rw [hz, Ri.mul_zero, Ri.mul_zero]
def two (A : Nat → Nat → K) (q k : Nat) (u w : Nat → K) : Nat → Nat → K := fun i j => if j = q then u i else if j = k then w i else A i j
theorem det_anti {n q k : Nat} (hq : q < n) (hk : k < n) (hne : q ≠ k) (A : Nat → Nat → K) (h0 : ∀ u, det n (two A q k u u) = 0) (u w : Nat → K) : det n (two A q k w u) = -(det n (two A q k u w)) := by
 have l1 : ∀ u v w : Nat → K, det n (two A q k (fun i => u i + 1 * v i) w) = det n (two A q k u w) + 1 * det n (two A q k v w) := fun u v w => det_lin q 1 hq (fun i j hj => by unfold two; rw [if_neg hj, if_neg hj]) (fun i j hj => by unfold two; rw [if_neg hj, if_neg hj]) (fun i => by unfold two; rw [if_pos rfl, if_pos rfl, if_pos rfl])
 have l2 : ∀ u v w : Nat → K, det n (two A q k u (fun i => v i + 1 * w i)) = det n (two A q k u v) + 1 * det n (two A q k u w) := fun u v w => det_lin k 1 hk
  (fun i j hj => by unfold two; by_cases e : j = q; (rw [if_pos e, if_pos e]); (rw [if_neg e, if_neg e, if_neg hj, if_neg hj]))
  (fun i j hj => by unfold two; by_cases e : j = q; (rw [if_pos e, if_pos e]); (rw [if_neg e, if_neg e, if_neg hj, if_neg hj]))
  (fun i => by unfold two; rw [if_neg (Ne.symm hne), if_neg (Ne.symm hne), if_neg (Ne.symm hne), if_pos rfl, if_pos rfl, if_pos rfl])
 have e := h0 (fun i => u i + 1 * w i)
 rw [l1, l2, l2, h0 u, h0 w, Ri.zero_add, Ri.one_mul, Ri.one_mul, Ri.one_mul, Ri.add_zero] at e
 exact Ri.neg_unique e
theorem two_self (A : Nat → Nat → K) (q k : Nat) : two A q k (fun i => A i q) (fun i => A i k) = A := by
 funext i j
 unfold two
 split
 ·rename_i e; rw [e]
 ·split
  ·rename_i e; rw [e]
  ·rfl
theorem det_equal {n : Nat} : ∀ (d : Nat) {A : Nat → Nat → K} {q k : Nat}, q + 1 + d = k → k < n → (∀ i, A i q = A i k) → det n A = 0
 | 0, A, q, k, hd, hk, h => by
  subst hd
  exact det_adj q hk h
 | d + 1, A, q, k, hd, hk, h => by
  have hanti := det_anti (n := n) (q := k - 1) (k := k) (by omega) hk (by omega) A (fun u => by
   refine det_adj (k - 1) (by omega) fun i => ?_
   unfold two
   rw [if_pos rfl, if_neg (by omega), if_pos (by omega)]) (fun i => A i (k - 1)) (fun i => A i k)
  rw [two_self] at hanti
  have hz : det n (two A (k - 1) k (fun i => A i k) (fun i => A i (k - 1))) = 0 := by
   refine det_equal d (q := q) (k := k - 1) (by omega) (by omega) fun i => ?_
   unfold two
   rw [if_neg (by omega), if_neg (by omega), if_pos rfl]
   exact h i
  rw [hz] at hanti
  have := congrArg (fun x => -x) hanti
  simp only [Ri.neg_neg, Ri.neg_zero] at this
  exact this.symm
theorem det_same {n : Nat} {A : Nat → Nat → K} {q k : Nat} (hq : q < n) (hk : k < n) (hne : q ≠ k) (h : ∀ i, A i q = A i k) : det n A = 0 := by
 rcases Nat.lt_or_gt_of_ne hne with hl | hl
 ·exact det_equal (k - q - 1) (by omega) hk h
 ·exact det_equal (q - k - 1) (by omega) hq fun i => (h i).symm
theorem det_swap {n : Nat} (A : Nat → Nat → K) {q k : Nat} (hq : q < n) (hk : k < n) (hne : q ≠ k) : det n (two A q k (fun i => A i k) (fun i => A i q)) = -(det n A) := by
 have := det_anti hq hk hne A (fun u => det_same hq hk hne fun i => by unfold two; rw [if_pos rfl, if_neg (Ne.symm hne), if_pos rfl]) (fun i => A i q) (fun i => A i k)
 rwa [two_self] at this
end Lr
namespace La
variable {K : Type} [Fi K]
theorem sm_head (g : Nat → K) : ∀ n : Nat, sm g (n + 1) = g 0 + sm (fun i => g (i + 1)) n
 | 0 => by show sm g 0 + g 0 = g 0 + sm _ 0; exact Fi.add_comm _ _
 | n + 1 => by
  show sm g (n + 1) + g (n + 1) = g 0 + (sm (fun i => g (i + 1)) n + g (n + 1))
  rw [sm_head g n, Fi.add_assoc]
theorem sm_rev (g : Nat → K) : ∀ n : Nat, sm g n = sm (fun i => g (n - 1 - i)) n
 | 0 => rfl
 | n + 1 => by
  rw [sm_head (fun i => g (n + 1 - 1 - i)) n]
  show sm g n + g n = g (n + 1 - 1 - 0) + _
  rw [sm_rev g n, Fi.add_comm]
  congr 1
  exact sm_congr fun i hi => by congr 1; omega
theorem sm_tri (F : Nat → Nat → K) : ∀ n : Nat, sm (fun i => sm (fun j => F j (i - j)) (i + 1)) n = sm (fun j => sm (fun l => F j l) (n - j)) n
 | 0 => rfl
 | n + 1 => by
  show sm (fun i => sm (fun j => F j (i - j)) (i + 1)) n + sm (fun j => F j (n - j)) (n + 1) = sm (fun j => sm (fun l => F j l) (n + 1 - j)) n + sm (fun l => F n l) (n + 1 - n)
  rw [sm_tri F n, show n + 1 - n = 1 by omega]
  show _ + (sm (fun j => F j (n - j)) n + F n (n - n)) = _ + (sm (fun l => F n l) 0 + F n 0)
  rw [show sm (fun l => F n l) 0 = 0 from rfl, Fi.zero_add, ← Fi.add_assoc, ← sm_add, Nat.sub_self]
  congr 1
  refine sm_congr fun j hj => ?_
  rw [show n + 1 - j = n - j + 1 by omega]
  rfl
theorem sm_more {g : Nat → K} {n m : Nat} (h : n ≤ m) (hz : ∀ i, n ≤ i → i < m → g i = 0) : sm g m = sm g n := by
 obtain ⟨k, rfl⟩ := Nat.exists_eq_add_of_le h
 clear h
 induction k with
 | zero => rfl
 | succ k ih =>
  show sm g (n + k) + g (n + k) = _
  rw [hz (n + k) (by omega) (by omega), Fi.add_zero, ih fun i h1 h2 => hz i h1 (by omega)]
end La
@[ext] structure Ps (K : Type) where
 co : Nat → K
namespace Ps
open La
variable {K : Type} [Fi K]
def mulC (a b : Nat → K) (n : Nat) : K := sm (fun i => a i * b (n - i)) (n + 1)
theorem mulC_comm (a b : Nat → K) (n : Nat) : mulC a b n = mulC b a n := by
 unfold mulC
 rw [sm_rev]
 refine sm_congr fun i hi => ?_
 rw [Fi.mul_comm, show n - (n + 1 - 1 - i) = i by omega]; congr 1
theorem mulC_assoc (a b c : Nat → K) (n : Nat) : mulC (mulC a b) c n = mulC a (mulC b c) n := by
 unfold mulC
 have e1 : sm (fun i => sm (fun i_1 => a i_1 * b (i - i_1)) (i + 1) * c (n - i)) (n + 1) = sm (fun i => sm (fun j => a j * b (i - j) * c (n - (j + (i - j)))) (i + 1)) (n + 1) := sm_congr fun i hi => by
  rw [← sm_mulR]
  exact sm_congr fun j hj => by rw [show j + (i - j) = i by omega]
 rw [e1, sm_tri fun j l => a j * b l * c (n - (j + l))]
 refine sm_congr fun j hj => ?_
 rw [← sm_mul, show n + 1 - j = n - j + 1 by omega]
 exact sm_congr fun l hl => by rw [Fi.mul_assoc, show n - (j + l) = n - j - l by omega]
theorem mulC_add (a b c : Nat → K) (n : Nat) : mulC a (fun i => b i + c i) n = mulC a b n + mulC a c n := by
 unfold mulC
 rw [← sm_add]
 exact sm_congr fun i _ => Fi.mul_add _ _ _
instance : Ri (Ps K) where
 zero := ⟨fun _ => 0⟩
 one := ⟨fun n => if n = 0 then 1 else 0⟩
 add a b := ⟨fun n => a.co n + b.co n⟩
 mul a b := ⟨mulC a.co b.co⟩
 neg a := ⟨fun n => -(a.co n)⟩
 add_assoc a b c := Ps.ext (funext fun n => Fi.add_assoc _ _ _)
 add_comm a b := Ps.ext (funext fun n => Fi.add_comm _ _)
 zero_add a := Ps.ext (funext fun n => Fi.zero_add _)
 neg_add a := Ps.ext (funext fun n => Fi.neg_add _)
 mul_assoc a b c := Ps.ext (funext fun n => mulC_assoc _ _ _ n)
 mul_comm a b := Ps.ext (funext fun n => mulC_comm _ _ n)
 one_mul a := Ps.ext (funext fun n => by
  show sm (fun i => (if i = 0 then 1 else 0) * a.co (n - i)) (n + 1) = a.co n
  rw [sm_one (k := 0) (by omega) fun i _ h => by rw [if_neg h, Fi.zero_mul], if_pos rfl, Fi.one_mul]; rfl)
 mul_add a b c := Ps.ext (funext fun n => mulC_add _ _ _ n)
theorem co_one (n : Nat) : (1 : Ps K).co n = if n = 0 then 1 else 0 := rfl
theorem co_add (a b : Ps K) (n : Nat) : (a + b).co n = a.co n + b.co n := rfl
theorem co_neg (a : Ps K) (n : Nat) : (-a).co n = -(a.co n) := rfl
theorem co_mul (a b : Ps K) (n : Nat) : (a * b).co n = sm (fun i => a.co i * b.co (n - i)) (n + 1) := rfl
def Low (a : Ps K) (n : Nat) : Prop := ∀ i, n ≤ i → a.co i = 0
def Pol (a : Ps K) : Prop := ∃ n, Low a n
theorem Low.mono {a : Ps K} {n m : Nat} (h : Low a n) (hm : n ≤ m) : Low a m := fun i hi => h i (by omega)
theorem Low.add {a b : Ps K} {n : Nat} (h : Low a n) (g : Low b n) : Low (a + b) n := fun i hi => by rw [co_add, h i hi, g i hi, Fi.add_zero]
theorem Low.neg {a : Ps K} {n : Nat} (h : Low a n) : Low (-a) n := fun i hi => by rw [co_neg, h i hi, Fi.neg_zero]
theorem Low.mul {a b : Ps K} {n m : Nat} (h : Low a n) (g : Low b m) : Low (a * b) (n + m - 1) := fun i hi => by
 rw [co_mul]
 refine sm_zero fun j hj => ?_
 by_cases e : n ≤ j
 ·rw [h j e, Fi.zero_mul]
 ·by_cases e2 : m ≤ i - j
  ·rw [g _ e2, Fi.mul_zero]
  ·omega
theorem Low.zero (n : Nat) : Low (0 : Ps K) n := fun _ _ => rfl
theorem Low.one : Low (1 : Ps K) 1 := fun i hi => by rw [co_one, if_neg (by omega)]
theorem Pol.zero : Pol (0 : Ps K) := ⟨0, Low.zero 0⟩
theorem Pol.one : Pol (1 : Ps K) := ⟨1, Low.one⟩
theorem Pol.add {a b : Ps K} (h : Pol a) (g : Pol b) : Pol (a + b) := by
 obtain ⟨n, h⟩ := h; obtain ⟨m, g⟩ := g
 exact ⟨max n m, (h.mono (by omega)).add (g.mono (by omega))⟩
theorem Pol.neg {a : Ps K} (h : Pol a) : Pol (-a) := by
 obtain ⟨n, h⟩ := h; exact ⟨n, h.neg⟩
theorem Pol.mul {a b : Ps K} (h : Pol a) (g : Pol b) : Pol (a * b) := by
 obtain ⟨n, h⟩ := h; obtain ⟨m, g⟩ := g; exact ⟨_, h.mul g⟩
def Top (a : Ps K) (n : Nat) : Prop := a.co n ≠ 0 ∧ Low a (n + 1)
theorem top_co {a b : Ps K} {n m : Nat} (h : Low a (n + 1)) (g : Low b (m + 1)) : (a * b).co (n + m) = a.co n * b.co m := by
 rw [co_mul, sm_one (k := n) (by omega) fun i hi hne => ?_]
 ·rw [show n + m - n = m by omega]
 ·by_cases e : n + 1 ≤ i
  ·rw [h i e, Fi.zero_mul]
  ·rw [g _ (by omega), Fi.mul_zero]
theorem Top.mul {a b : Ps K} {n m : Nat} (h : Top a n) (g : Top b m) : Top (a * b) (n + m) :=
 ⟨by rw [top_co h.2 g.2]; exact Fi.mul_ne h.1 g.1, by have := h.2.mul g.2; exact this.mono (by omega)⟩
theorem Top.uniq {a : Ps K} {n m : Nat} (h : Top a n) (g : Top a m) : n = m := by
 rcases Nat.lt_trichotomy n m with e | e | e
 ·exact absurd (h.2 m (by omega)) g.1
 ·exact e
 ·exact absurd (g.2 n (by omega)) h.1
theorem Low.top {a : Ps K} : ∀ {n : Nat}, Low a n → a ≠ 0 → ∃ m, m < n ∧ Top a m
 | 0, h, hne => absurd (Ps.ext (funext fun i => h i (by omega))) hne
 | n + 1, h, hne => by
  by_cases e : a.co n = 0
  ·obtain ⟨m, hm, ht⟩ := Low.top (n := n) (fun i hi => by
    by_cases e2 : i = n
    ·rw [e2, e]
    ·exact h i (by omega)) hne
   exact ⟨m, by omega, ht⟩
  ·exact ⟨n, by omega, e, h⟩
theorem Pol.top {a : Ps K} (h : Pol a) (hne : a ≠ 0) : ∃ m, Top a m := by
 obtain ⟨n, h⟩ := h; obtain ⟨m, _, ht⟩ := h.top hne; exact ⟨m, ht⟩
theorem Top.ne {a : Ps K} {n : Nat} (h : Top a n) : a ≠ 0 := fun e => h.1 (by rw [e]; rfl)
theorem first_co {a : Ps K} (h : a ≠ 0) : ∃ n, a.co n ≠ 0 ∧ ∀ i, i < n → a.co i = 0 := by
 have hex : ∃ n, a.co n ≠ 0 := by
  refine Classical.byContradiction fun hn => h (Ps.ext (funext fun i => ?_))
  exact Classical.byContradiction fun h2 => hn ⟨i, h2⟩
 have key : ∀ m, (∃ n, n ≤ m ∧ a.co n ≠ 0) → ∃ n, a.co n ≠ 0 ∧ ∀ i, i < n → a.co i = 0 := by
  intro m
  induction m with
  | zero => rintro ⟨n, hn, h⟩; exact ⟨0, by rwa [show n = 0 by omega] at h, fun i hi => by omega⟩
  | succ m ih =>
   rintro ⟨n, hn, h⟩
   by_cases hc : ∃ n, n ≤ m ∧ a.co n ≠ 0
   ·exact ih hc
   ·refine ⟨n, h, fun i hi => Classical.byContradiction fun h2 => hc ⟨i, by omega, h2⟩⟩
 obtain ⟨n, hn⟩ := hex
 exact key n ⟨n, by omega, hn⟩
theorem mul_ne {a b : Ps K} (ha : a ≠ 0) (hb : b ≠ 0) : a * b ≠ 0 := by
 obtain ⟨n, hn, hn0⟩ := first_co ha
 obtain ⟨m, hm, hm0⟩ := first_co hb
 intro e
 have h2 : (a * b).co (n + m) = a.co n * b.co m := by
  rw [co_mul, sm_one (k := n) (by omega) fun i hi hne => ?_]
  ·rw [show n + m - n = m by omega]
  ·by_cases e : i < n
   ·rw [hn0 i e, Fi.zero_mul]
   ·rw [hm0 _ (by omega), Fi.mul_zero]
 rw [e] at h2
 exact Fi.mul_ne hn hm h2.symm
def con (x : K) : Ps K := ⟨fun n => if n = 0 then x else 0⟩
theorem co_con (x : K) (n : Nat) : (con x).co n = if n = 0 then x else 0 := rfl
theorem con_low (x : K) : Low (con x) 1 := fun i hi => by rw [co_con, if_neg (by omega)]
theorem con_mul (x : K) (a : Ps K) (n : Nat) : (con x * a).co n = x * a.co n := by
 rw [co_mul, sm_one (k := 0) (by omega) fun i _ h => by rw [co_con, if_neg h, Fi.zero_mul], co_con, if_pos rfl]; rfl
theorem con_one : con (1 : K) = 1 := rfl
theorem con_con (x y : K) : con x * con y = con (x * y) := by
 apply Ps.ext; funext n
 rw [con_mul, co_con, co_con]; split
 ·rfl
 ·exact Fi.mul_zero _
def xp (k : Nat) : Ps K := ⟨fun n => if n = k then 1 else 0⟩
theorem co_xp (k n : Nat) : (xp k : Ps K).co n = if n = k then 1 else 0 := rfl
theorem xp_low (k : Nat) : Low (xp k : Ps K) (k + 1) := fun i hi => by rw [co_xp, if_neg (by omega)]
theorem xp_mul (k : Nat) (a : Ps K) (n : Nat) : (xp k * a).co n = if k ≤ n then a.co (n - k) else 0 := by
 rw [co_mul]
 split
 ·rw [sm_one (k := k) (by omega) fun i _ h => by rw [co_xp, if_neg h, Fi.zero_mul], co_xp, if_pos rfl, Fi.one_mul]
 ·exact sm_zero fun i hi => by rw [co_xp, if_neg (by omega), Fi.zero_mul]
theorem xp_zero : (xp 0 : Ps K) = 1 := rfl
def Dv (d a : Ps K) : Prop := ∃ q, Pol q ∧ a = q * d
theorem Dv.refl (a : Ps K) : Dv a a := ⟨1, Pol.one, (Ri.one_mul a).symm⟩
theorem Dv.zero (d : Ps K) : Dv d 0 := ⟨0, Pol.zero, (Ri.zero_mul d).symm⟩
theorem Dv.add {d a b : Ps K} (h : Dv d a) (g : Dv d b) : Dv d (a + b) := by
 obtain ⟨q, hq, rfl⟩ := h; obtain ⟨r, hr, rfl⟩ := g
 exact ⟨q + r, hq.add hr, (Ri.add_mul _ _ _).symm⟩
theorem Dv.mul {d a : Ps K} (h : Dv d a) {b : Ps K} (hb : Pol b) : Dv d (b * a) := by
 obtain ⟨q, hq, rfl⟩ := h
 exact ⟨b * q, hb.mul hq, (Ri.mul_assoc _ _ _).symm⟩
theorem Dv.neg {d a : Ps K} (h : Dv d a) : Dv d (-a) := by
 obtain ⟨q, hq, rfl⟩ := h
 exact ⟨-q, hq.neg, (Ri.neg_mul _ _).symm⟩
theorem Dv.of_neg {d a : Ps K} (h : Dv d (-a)) : Dv d a := by
 have := h.neg; rwa [Ri.neg_neg] at this
theorem Dv.trans {a b c : Ps K} (h : Dv a b) (g : Dv b c) : Dv a c := by
 obtain ⟨q, hq, rfl⟩ := h; obtain ⟨r, hr, rfl⟩ := g
 exact ⟨r * q, hr.mul hq, (Ri.mul_assoc _ _ _).symm⟩
theorem Dv.of_zero {a : Ps K} (h : Dv 0 a) : a = 0 := by
 obtain ⟨q, _, rfl⟩ := h; exact Ri.mul_zero q
theorem Dv.pol {d a : Ps K} (h : Dv d a) (hd : Pol d) : Pol a := by
 obtain ⟨q, hq, rfl⟩ := h; exact hq.mul hd
def Mon (a : Ps K) : Prop := a = 0 ∨ ∃ n, a.co n = 1 ∧ Low a (n + 1)
theorem Mon.uniq {a b : Ps K} (ha : Mon a) (hb : Mon b) (h : Dv a b) (g : Dv b a) : a = b := by
 rcases ha with e | ⟨n, ha, hl⟩
 ·rw [e] at h; rw [e, h.of_zero]
 ·rcases hb with e | ⟨m, hb, hm⟩
  ·rw [e] at g; rw [e, g.of_zero]
  ·obtain ⟨q, hq, eb⟩ := h
   obtain ⟨r, hr, ea⟩ := g
   have ta : Top a n := ⟨by rw [ha]; exact Fi.one_ne, hl⟩
   have tb : Top b m := ⟨by rw [hb]; exact Fi.one_ne, hm⟩
   have hq0 : q ≠ 0 := fun e => tb.ne (by rw [eb, e, Ri.zero_mul])
   have hr0 : r ≠ 0 := fun e => ta.ne (by rw [ea, e, Ri.zero_mul])
   obtain ⟨s, hs⟩ := hq.top hq0
   obtain ⟨t, ht⟩ := hr.top hr0
   have e1 : s + n = m := ((eb ▸ hs.mul ta : Top b (s + n))).uniq tb
   have e2 : t + m = n := ((ea ▸ ht.mul tb : Top a (t + m))).uniq ta
   have hs0 : s = 0 := by omega
   subst hs0
   have hc : b.co (0 + n) = q.co 0 * a.co n := by conv => lhs; rw [eb]
                                                  exact top_co hs.2 ta.2
   rw [ha, Fi.mul_one, e1, hb] at hc
   have : q = 1 := by
    apply Ps.ext; funext i
    rw [co_one]
    split
    ·rename_i e; rw [e, ← hc]
    ·exact hs.2 i (by omega)
   rw [eb, this, Ri.one_mul]
end Ps
end Go.Cw
set_option linter.unusedVariables false
set_option linter.unusedSimpArgs false
set_option linter.unusedSectionVars false
namespace Go.Cw
structure Rgn where
 F : Fld
 Kind : Int
 K : Int
 D : Int
 Points : List Int
def rgBad (r : Rgn) : Prop := (r.Kind ≠ 0 ∧ r.Kind ≠ 1) ∨ r.D < 1 ∨ (r.Points.length : Int) - 1 < r.D ∨ r.K < 1 ∨ r.D < r.K ∨ (r.Kind = 1 ∧ r.D ≠ 2 * r.K - 2)
instance (r : Rgn) : Decidable (rgBad r) := by unfold rgBad; infer_instance
def outF (f : Fld) (l : List Int) : Prop := ∃ x ∈ l, ¬ (0 ≤ x ∧ x < f.q)
instance (f : Fld) (l : List Int) : Decidable (outF f l) := by unfold outF; infer_instance
def entErr (f : Fld) (l : List Int) : Int := if outF f l then 2 else 0
def rgPow (r : Rgn) (x : Int) : Int := powF r.F x (r.K - 1)
structure RgOk (r : Rgn) : Prop where
 fld : FOk r.F
 len : 2 ≤ (r.Points.length : Int) ∧ (r.Points.length : Int) ≤ 64
 rng : ¬ rgBad r
 elt : ¬ outF r.F r.Points
 nodup : r.Points.Nodup
 pows : r.Kind = 1 → (r.Points.map (rgPow r)).Nodup
theorem outF_at {f : Fld} {l : List Int} {i : Int} (h0 : 0 ≤ i) (h1 : i < l.length) (h : ¬ (0 ≤ ix 0 l i ∧ ix 0 l i < f.q)) : outF f l := ⟨_, ix_mem 0 l h0 h1, h⟩
theorem outF_succ {f : Fld} {l : List Int} {i : Int} (h0 : 0 ≤ i) (h1 : i < l.length) (h : ¬ outF f (l.take i.toNat)) (h2 : 0 ≤ ix 0 l i ∧ ix 0 l i < f.q) : ¬ outF f (l.take (i + 1).toNat) := by
 rw [take_succ_ix 0 l h0 h1]
 rintro ⟨x, hx, hb⟩
 rcases List.mem_append.1 hx with hx | hx
 ·exact h ⟨x, hx, hb⟩
 ·rw [List.mem_singleton] at hx; rw [hx] at hb; exact hb h2
theorem outF_no {f : Fld} {l : List Int} (h : ¬ outF f l) {x : Int} (hx : x ∈ l) : 0 ≤ x ∧ x < f.q := by
 by_cases h2 : 0 ≤ x ∧ x < f.q
 ·exact h2
 ·exact absurd ⟨x, hx, h2⟩ h
theorem entErr_zero {f : Fld} {l : List Int} : entErr f l = 0 ↔ ¬ outF f l := by unfold entErr; split <;> simp_all
end Go.Cw
set_option linter.unusedVariables false
set_option linter.unusedSimpArgs false
set_option linter.unusedSectionVars false
namespace Go.Cw
structure Cnv where
 F : Fld
 Gen : List (List (List Int))
def trimN : List Int → Nat
 | [] => 0
 | a :: l => if trimN l = 0 then (if a = 0 then 0 else 1) else trimN l + 1
def trimL (l : List Int) : List Int := l.take (trimN l)
theorem trimN_le : ∀ l, trimN l ≤ l.length
 | [] => Nat.le_refl _
 | a :: l => by
  have := trimN_le l
  simp only [trimN, List.length_cons]
  split
  ·split <;> omega
  ·omega
theorem trimN_after : ∀ (l : List Int) (j : Nat), trimN l ≤ j → l.getD j 0 = 0
 | [], _, _ => by simp
 | a :: l, j, h => by
  simp only [trimN] at h
  split at h
  ·rename_i h0
   split at h
   ·rename_i ha
    cases j with
    | zero => simpa using ha
    | succ j => simpa using trimN_after l j (by omega)
   ·cases j with
    | zero => omega
    | succ j => simpa using trimN_after l j (by omega)
  ·cases j with
   | zero => omega
   | succ j => simpa using trimN_after l j (by omega)
theorem trimN_last : ∀ (l : List Int), 0 < trimN l → l.getD (trimN l - 1) 0 ≠ 0
 | [], h => by simp [trimN] at h
 | a :: l, h => by
  simp only [trimN] at h ⊢
  by_cases h0 : trimN l = 0
  ·rw [if_pos h0] at h ⊢
   by_cases ha : a = 0
   ·rw [if_pos ha] at h; omega
   ·rw [if_neg ha]; simpa using ha
  ·rw [if_neg h0]
   have := trimN_last l (by omega)
   rw [show trimN l + 1 - 1 = (trimN l - 1) + 1 by omega]
   simpa using this
theorem trimN_step {l : List Int} {k : Int} (h : (trimN l : Int) ≤ k) (h1 : 0 < k) (h2 : k ≤ l.length) (hz : ix 0 l (k - 1) = 0) : (trimN l : Int) ≤ k - 1 := by
 by_cases hk : (trimN l : Int) = k
 ·have := trimN_last l (by omega)
  unfold ix at hz
  rw [show (k - 1).toNat = trimN l - 1 by omega] at hz
  exact absurd hz this
 ·omega
theorem trimN_stop {l : List Int} {k : Int} (h : (trimN l : Int) ≤ k) (h0 : 0 ≤ k) (hz : ¬ (0 < k ∧ ix 0 l (k - 1) = 0)) : k = trimN l := by
 by_cases hk : (trimN l : Int) = k
 ·exact hk.symm
 ·exfalso
  refine hz ⟨by omega, ?_⟩
  unfold ix
  exact trimN_after l _ (by omega)
theorem trimN_snoc : ∀ (l : List Int) (a : Int), trimN (l ++ [a]) = if a = 0 then trimN l else l.length + 1
 | [], a => by simp [trimN]
 | b :: l, a => by
  simp only [List.cons_append, trimN, trimN_snoc l a, List.length_cons]
  by_cases ha : a = 0
  ·simp [ha]
  ·simp [ha]
theorem trimN_take {l : List Int} {d : Int} (h0 : 0 ≤ d) (h1 : d < l.length) : (trimN (l.take (d + 1).toNat) : Int) = if ix 0 l d = 0 then (trimN (l.take d.toNat) : Int) else d + 1 := by
 rw [take_succ_ix 0 l h0 h1, trimN_snoc]
 split
 ·rfl
 ·simp; omega
theorem length_trimL (l : List Int) : (trimL l).length = trimN l := by
 unfold trimL; have := trimN_le l; simp; omega
def rowDeg (row : List (List Int)) : Nat → Int
 | 0 => 0
 | n + 1 => max (rowDeg row n) ((trimN (ix [] row n) : Int) - 1)
theorem rowDeg_succ (row : List (List Int)) {j : Int} (h : 0 ≤ j) : rowDeg row (j + 1).toNat = max (rowDeg row j.toNat) ((trimN (ix [] row j) : Int) - 1) := by
 rw [show (j + 1).toNat = j.toNat + 1 by omega]
 simp only [rowDeg]
 rw [show ((j.toNat : Nat) : Int) = j by omega]
theorem rowDeg_nonneg (row : List (List Int)) : ∀ n, 0 ≤ rowDeg row n
 | 0 => Int.le_refl _
 | n + 1 => by have := rowDeg_nonneg row n; simp only [rowDeg]; omega
def degOf (row : List (List Int)) : Int := rowDeg row row.length
theorem rowDeg_le (row : List (List Int)) {b : Int} (hb : 0 ≤ b) (h : ∀ p ∈ row, (p.length : Int) ≤ b) : ∀ n, rowDeg row n ≤ b
 | 0 => hb
 | n + 1 => by
  have h1 := rowDeg_le row hb h n
  have h2 : (trimN (ix [] row n) : Int) ≤ b := by
   by_cases hn : n < row.length
   ·have := h _ (ix_mem [] row (i := (n : Int)) (by omega) (by omega))
    have := trimN_le (ix [] row n)
    omega
   ·have : ix [] row (n : Int) = [] := by unfold ix; simp [List.getD, show row.length ≤ n by omega]
    rw [this]; simpa [trimN] using hb
  simp only [rowDeg]; omega
namespace Cnv
def deg (c : Cnv) (i : Int) : Int := degOf (ix [] c.Gen i)
def sumD (c : Cnv) : Nat → Int
 | 0 => 0
 | n + 1 => sumD c n + c.deg n
def maxD (c : Cnv) : Nat → Int
 | 0 => 0
 | n + 1 => max (maxD c n) (c.deg n)
theorem sumD_succ (c : Cnv) {i : Int} (h : 0 ≤ i) : c.sumD (i + 1).toNat = c.sumD i.toNat + c.deg i := by
 rw [show (i + 1).toNat = i.toNat + 1 by omega]
 simp only [sumD]
 rw [show ((i.toNat : Nat) : Int) = i by omega]
theorem maxD_succ (c : Cnv) {i : Int} (h : 0 ≤ i) : c.maxD (i + 1).toNat = max (c.maxD i.toNat) (c.deg i) := by
 rw [show (i + 1).toNat = i.toNat + 1 by omega]
 simp only [maxD]
 rw [show ((i.toNat : Nat) : Int) = i by omega]
theorem deg_nonneg (c : Cnv) (i : Int) : 0 ≤ c.deg i := rowDeg_nonneg _ _
theorem sumD_nonneg (c : Cnv) : ∀ n, 0 ≤ c.sumD n
 | 0 => Int.le_refl _
 | n + 1 => by have := sumD_nonneg c n; have := c.deg_nonneg n; simp only [sumD]; omega
theorem maxD_nonneg (c : Cnv) : ∀ n, 0 ≤ c.maxD n
 | 0 => Int.le_refl _
 | n + 1 => by have := maxD_nonneg c n; simp only [maxD]; omega
theorem sumD_mono (c : Cnv) (n : Nat) : ∀ k, c.sumD n ≤ c.sumD (n + k)
 | 0 => Int.le_refl _
 | k + 1 => by have := sumD_mono c n k; have := c.deg_nonneg (n + k : Nat); show _ ≤ c.sumD (n + k) + c.deg ((n + k : Nat) : Int); omega
def n (c : Cnv) : Int := (ix [] c.Gen 0).length
def k (c : Cnv) : Int := c.Gen.length
def total (c : Cnv) : Int := c.k + c.sumD c.Gen.length
def badShape (c : Cnv) : Prop := c.k = 0 ∨ c.n = 0 ∨ c.n < c.k ∨ ∃ row ∈ c.Gen, (row.length : Int) ≠ c.n
def badElt (c : Cnv) : Prop := ∃ row ∈ c.Gen, ∃ p ∈ row, outF c.F p
def big (c : Cnv) : Prop := 65536 < c.F.q ^ c.total.toNat
open Classical in
noncomputable def err (c : Cnv) : Int :=
 if ¬ FOk c.F then 1 else if c.badShape then 3 else if 64 < c.n then 4 else if c.badElt then 2 else if c.big then 8 else 0
def Few (c : Cnv) : Prop := c.k ≤ 70 ∧ ∀ row ∈ c.Gen, (row.length : Int) ≤ 70 ∧ ∀ p ∈ row, (p.length : Int) ≤ 40
theorem Few.deg_le {c : Cnv} (h : c.Few) (i : Int) (h0 : 0 ≤ i) (h1 : i < c.k) : c.deg i ≤ 40 :=
 rowDeg_le _ (by omega) (h.2 _ (ix_mem [] c.Gen h0 h1)).2 _
theorem Few.sumD_le {c : Cnv} (h : c.Few) : ∀ n : Nat, (n : Int) ≤ c.k → c.sumD n ≤ 40 * n
 | 0, _ => Int.le_refl _
 | n + 1, hn => by
  have := Few.sumD_le h n (by omega)
  have := h.deg_le n (by omega) (by omega)
  simp only [sumD]; omega
def lens (row : List (List Int)) : Nat → Int
 | 0 => 0
 | n + 1 => lens row n + (ix [] row n).length
def cnt (c : Cnv) : Nat → Int
 | 0 => 0
 | n + 1 => cnt c n + lens (ix [] c.Gen n) (ix [] c.Gen n).length
theorem lens_succ (row : List (List Int)) {j : Int} (h : 0 ≤ j) : lens row (j + 1).toNat = lens row j.toNat + (ix [] row j).length := by
 rw [show (j + 1).toNat = j.toNat + 1 by omega]
 simp only [lens]
 rw [show ((j.toNat : Nat) : Int) = j by omega]
theorem cnt_succ (c : Cnv) {i : Int} (h : 0 ≤ i) : c.cnt (i + 1).toNat = c.cnt i.toNat + lens (ix [] c.Gen i) (ix [] c.Gen i).length := by
 rw [show (i + 1).toNat = i.toNat + 1 by omega]
 simp only [cnt]
 rw [show ((i.toNat : Nat) : Int) = i by omega]
def Short (c : Cnv) : Prop := c.Few ∧ c.cnt c.Gen.length ≤ 3000
open Classical in
noncomputable instance (c : Cnv) : Decidable c.Short := Classical.propDecidable _
def FewTo (c : Cnv) (i : Int) : Prop := ∀ row ∈ c.Gen.take i.toNat, (row.length : Int) ≤ 70 ∧ ∀ p ∈ row, (p.length : Int) ≤ 40
theorem FewTo.zero (c : Cnv) : c.FewTo 0 := by intro row h; simp at h
theorem FewTo.succ {c : Cnv} {i : Int} (h : c.FewTo i) (h0 : 0 ≤ i) (h1 : i < c.k) (h2 : ((ix [] c.Gen i).length : Int) ≤ 70) (h3 : ∀ p ∈ ix [] c.Gen i, (p.length : Int) ≤ 40) : c.FewTo (i + 1) := by
 intro row hr
 rw [take_succ_ix [] c.Gen h0 h1] at hr
 rcases List.mem_append.1 hr with hr | hr
 ·exact h row hr
 ·rw [List.mem_singleton] at hr; subst hr; exact ⟨h2, h3⟩
theorem FewTo.all {c : Cnv} {i : Int} (h : c.FewTo i) (h1 : c.k ≤ i) (h2 : c.k ≤ 70) : c.Few := by
 refine ⟨h2, fun row hr => h row ?_⟩
 have : c.k = (c.Gen.length : Int) := rfl
 rw [List.take_of_length_le (by omega)]; exact hr
theorem short_poly {l : List (List Int)} {j : Int} (h : ∀ p ∈ l.take j.toNat, (p.length : Int) ≤ 40) (h0 : 0 ≤ j) (h1 : j < l.length) (h2 : ((ix [] l j).length : Int) ≤ 40) : ∀ p ∈ l.take (j + 1).toNat, (p.length : Int) ≤ 40 := by
 intro p hp
 rw [take_succ_ix [] l h0 h1] at hp
 rcases List.mem_append.1 hp with hp | hp
 ·exact h p hp
 ·rw [List.mem_singleton] at hp; subst hp; exact h2
theorem lens_le (row : List (List Int)) (h : ∀ p ∈ row, (p.length : Int) ≤ 40) : ∀ n : Nat, n ≤ row.length → 0 ≤ lens row n ∧ lens row n ≤ 40 * n
 | 0, _ => ⟨Int.le_refl _, Int.le_refl _⟩
 | n + 1, hn => by
  have := lens_le row h n (by omega)
  have := h _ (ix_mem [] row (i := (n : Int)) (by omega) (by omega))
  simp only [lens]; omega
structure Ok (c : Cnv) : Prop where
 fld : FOk c.F
 shape : ¬ c.badShape
 len : c.n ≤ 64
 elt : ¬ c.badElt
 small : ¬ c.big
theorem err_zero {c : Cnv} : c.err = 0 ↔ c.Ok := by
 unfold err
 constructor
 ·intro h
  split at h; · cases h
  rename_i h1
  split at h; · cases h
  rename_i h2
  split at h; · cases h
  rename_i h3
  split at h; · cases h
  rename_i h4
  split at h; · cases h
  rename_i h5
  exact ⟨Classical.not_not.1 h1, h2, by omega, h4, h5⟩
 ·rintro ⟨h1, h2, h3, h4, h5⟩
  rw [if_neg (fun h => h h1), if_neg h2, if_neg (by omega), if_neg h4, if_neg h5]
theorem err_1 {c : Cnv} (h : ¬ FOk c.F) : c.err = 1 := by unfold err; rw [if_pos h]
theorem err_3 {c : Cnv} (h : FOk c.F) (h2 : c.badShape) : c.err = 3 := by unfold err; rw [if_neg (fun g => g h), if_pos h2]
theorem err_4 {c : Cnv} (h : FOk c.F) (h2 : ¬ c.badShape) (h3 : 64 < c.n) : c.err = 4 := by unfold err; rw [if_neg (fun g => g h), if_neg h2, if_pos h3]
theorem err_2 {c : Cnv} (h : FOk c.F) (h2 : ¬ c.badShape) (h3 : c.n ≤ 64) (h4 : c.badElt) : c.err = 2 := by unfold err; rw [if_neg (fun g => g h), if_neg h2, if_neg (by omega), if_pos h4]
theorem err_8 {c : Cnv} (h : FOk c.F) (h2 : ¬ c.badShape) (h3 : c.n ≤ 64) (h4 : ¬ c.badElt) (h5 : c.big) : c.err = 8 := by
 unfold err; rw [if_neg (fun g => g h), if_neg h2, if_neg (by omega), if_neg h4, if_pos h5]
theorem badShape_row {c : Cnv} {i : Int} (h0 : 0 ≤ i) (h1 : i < c.Gen.length) (h : ((ix [] c.Gen i).length : Int) ≠ c.n) : c.badShape := .inr (.inr (.inr ⟨_, ix_mem [] c.Gen h0 h1, h⟩))
def RowsTo (c : Cnv) (i : Int) : Prop := ∀ row ∈ c.Gen.take i.toNat, (row.length : Int) = c.n
theorem RowsTo.zero (c : Cnv) : c.RowsTo 0 := by intro row h; simp at h
theorem RowsTo.succ {c : Cnv} {i : Int} (h : c.RowsTo i) (h0 : 0 ≤ i) (h1 : i < c.Gen.length) (h2 : ((ix [] c.Gen i).length : Int) = c.n) : c.RowsTo (i + 1) := by
 intro row hr
 rw [take_succ_ix [] c.Gen h0 h1] at hr
 rcases List.mem_append.1 hr with hr | hr
 ·exact h row hr
 ·rw [List.mem_singleton] at hr; subst hr; exact h2
theorem RowsTo.shape {c : Cnv} {i : Int} (h : c.RowsTo i) (h1 : c.Gen.length ≤ i) (h2 : c.k ≠ 0) (h3 : c.n ≠ 0) (h4 : c.k ≤ c.n) : ¬ c.badShape := by
 unfold RowsTo at h
 rw [List.take_of_length_le (by omega)] at h
 rintro (g | g | g | ⟨row, hr, g⟩)
 ·exact h2 g
 ·exact h3 g
 ·omega
 ·exact g (h row hr)
def PolTo (f : Fld) (row : List (List Int)) (j : Int) : Prop := ∀ p ∈ row.take j.toNat, ¬ outF f p
def EltTo (c : Cnv) (i : Int) : Prop := ∀ row ∈ c.Gen.take i.toNat, ∀ p ∈ row, ¬ outF c.F p
theorem PolTo.zero (f : Fld) (row : List (List Int)) : PolTo f row 0 := by intro p h; simp at h
theorem EltTo.zero (c : Cnv) : c.EltTo 0 := by intro row h; simp at h
theorem PolTo.succ {f : Fld} {row : List (List Int)} {j : Int} (h : PolTo f row j) (h0 : 0 ≤ j) (h1 : j < row.length) (h2 : ¬ outF f (ix [] row j)) : PolTo f row (j + 1) := by
 intro p hp
 rw [take_succ_ix [] row h0 h1] at hp
 rcases List.mem_append.1 hp with hp | hp
 ·exact h p hp
 ·rw [List.mem_singleton] at hp; subst hp; exact h2
theorem EltTo.succ {c : Cnv} {i j : Int} (h : c.EltTo i) (h0 : 0 ≤ i) (h1 : i < c.Gen.length) (h2 : PolTo c.F (ix [] c.Gen i) j) (h3 : (ix [] c.Gen i).length ≤ j) : c.EltTo (i + 1) := by
 intro row hr
 rw [take_succ_ix [] c.Gen h0 h1] at hr
 rcases List.mem_append.1 hr with hr | hr
 ·exact h row hr
 ·rw [List.mem_singleton] at hr; subst hr
  intro p hp
  refine h2 p ?_
  rw [List.take_of_length_le (by omega)]; exact hp
theorem EltTo.all {c : Cnv} {i : Int} (h : c.EltTo i) (h1 : c.Gen.length ≤ i) : ¬ c.badElt := by
 unfold EltTo at h
 rw [List.take_of_length_le (by omega)] at h
 rintro ⟨row, hr, p, hp, g⟩
 exact h row hr p hp g
theorem badElt_at {c : Cnv} {i j : Int} (h0 : 0 ≤ i) (h1 : i < c.Gen.length) (h2 : 0 ≤ j) (h3 : j < (ix [] c.Gen i).length) (h : outF c.F (ix [] (ix [] c.Gen i) j)) : c.badElt :=
 ⟨_, ix_mem [] c.Gen h0 h1, _, ix_mem [] _ h2 h3, h⟩
theorem Ok.poly {c : Cnv} (h : c.Ok) {i j : Int} (h0 : 0 ≤ i) (h1 : i < c.Gen.length) (h2 : 0 ≤ j) (h3 : j < (ix [] c.Gen i).length) : ¬ outF c.F (ix [] (ix [] c.Gen i) j) := fun g => h.elt (badElt_at h0 h1 h2 h3 g)
theorem Ok.row {c : Cnv} (h : c.Ok) {i : Int} (h0 : 0 ≤ i) (h1 : i < c.Gen.length) : ((ix [] c.Gen i).length : Int) = c.n := by
 by_cases g : ((ix [] c.Gen i).length : Int) = c.n
 ·exact g
 ·exact absurd (badShape_row h0 h1 g) h.shape
theorem Ok.kn {c : Cnv} (h : c.Ok) : 1 ≤ c.k ∧ c.k ≤ c.n := by
 have h1 : ¬ (c.k = 0) := fun g => h.shape (.inl g)
 have h2 : ¬ (c.n < c.k) := fun g => h.shape (.inr (.inr (.inl g)))
 have : 0 ≤ c.k := by unfold k; omega
 omega
def canon (c : Cnv) : List (List (List Int)) := c.Gen.map (fun row => row.map trimL)
def degs (c : Cnv) : List Int := mapR c.deg c.k
def mem (c : Cnv) : Int := c.maxD c.Gen.length
def fst (c : Cnv) (i : Int) : Int := c.F.q ^ (c.sumD i.toNat).toNat
def fsts (c : Cnv) : List Int := mapR c.fst c.k
def states (c : Cnv) : Int := c.F.q ^ (c.sumD c.Gen.length).toNat
theorem pow_part {c : Cnv} (hq : 2 ≤ c.F.q) {e : Int} (h : e ≤ c.total) : c.F.q ^ e.toNat ≤ c.F.q ^ c.total.toNat := pow_mono_of c.F.q hq (by omega)
theorem fst_add (c : Cnv) (i d : Int) (h : 0 ≤ d) : c.fst i * c.F.q ^ d.toNat = c.F.q ^ (c.sumD i.toNat + d).toNat := by
 have := c.sumD_nonneg i.toNat
 unfold fst
 rw [← Int.pow_add, show (c.sumD i.toNat + d).toNat = (c.sumD i.toNat).toNat + d.toNat by omega]
theorem fst_succ (c : Cnv) {i : Int} (h : 0 ≤ i) : c.fst (i + 1) = c.fst i * c.F.q ^ (c.deg i).toNat := by
 rw [c.fst_add i _ (c.deg_nonneg i)]
 unfold fst
 rw [c.sumD_succ h]
theorem sumD_le_all (c : Cnv) {i : Int} (h1 : i ≤ c.Gen.length) : c.sumD i.toNat ≤ c.sumD c.Gen.length := by
 have := c.sumD_mono i.toNat (c.Gen.length - i.toNat)
 rwa [show i.toNat + (c.Gen.length - i.toNat) = c.Gen.length by omega] at this
theorem deg_part (c : Cnv) {i : Int} (h0 : 0 ≤ i) (h1 : i < c.Gen.length) : c.sumD i.toNat + c.deg i ≤ c.sumD c.Gen.length := by
 rw [← c.sumD_succ h0]; exact c.sumD_le_all (by omega)
end Cnv
def expF (q k m : Int) : Int := if q ^ k.toNat ≤ m then q ^ k.toNat else 0
def expE (q k m : Int) : Int := if q ^ k.toNat ≤ m then 0 else 8
end Go.Cw
set_option linter.unusedVariables false
set_option linter.unusedSimpArgs false
set_option linter.unusedSectionVars false
namespace Go.Cw
theorem mixL_skip (l r : List Int) {i : Int} (h0 : 0 ≤ i) (h1 : i < r.length) (h : l.length = r.length) (hv : ix 0 r i = ix 0 l i) : mixL l r i = mixL l r (i + 1) := by
 have e := mixL_set l r h0 h1 h hv
 rw [← e]
 have hm := ix_mixL l r h0 h1 h
 have hl := length_mixL l r (i := i) h
 have hlt : i.toNat < (mixL l r i).length := by omega
 unfold ix at hm
 simp only [List.getD, List.getElem?_eq_getElem hlt, Option.getD_some] at hm
 conv => lhs; rw [← List.set_getElem_self hlt]
 rw [hm]; rfl
theorem ix_map_inF (f : Fld) (l : List Int) {i : Int} (h0 : 0 ≤ i) (h1 : i < l.length) : ix 0 (l.map (inF f)) i = inF f (ix 0 l i) := by
 have hi : i.toNat < l.length := by omega
 simp [ix, List.getD, hi]
theorem map_inF {f : Fld} {l : List Int} (h : ¬ outF f l) : l.map (inF f) = l := by
 conv => rhs; rw [← List.map_id l]
 apply List.map_congr_left
 intro x hx
 have := outF_no h hx
 unfold inF; rw [if_pos this]; rfl
theorem ix_take (l : List Int) {k i : Int} (h0 : 0 ≤ i) (h1 : i < k) : ix 0 (l.take k.toNat) i = ix 0 l i := by
 unfold ix
 simp only [List.getD]
 rw [List.getElem?_take, if_pos (by omega)]
theorem ix_replicate0 (n : Nat) (i : Int) : ix 0 (List.replicate n (0 : Int)) i = 0 := by
 unfold ix
 simp only [List.getD, List.getElem?_replicate]
 split <;> rfl
end Go.Cw
set_option linter.unusedVariables false
set_option linter.unusedSimpArgs false
set_option linter.unusedSectionVars false
namespace Go.Cw
namespace Shape
variable {f : Fld}
def e (f : Fld) (x : Int) : f.R.V := f.R.elt (inF f x)
theorem e_inj (h : Shape f) {x y : Int} (h0 : 0 ≤ x) (h1 : x < f.q) (g0 : 0 ≤ y) (g1 : y < f.q) (he : e f x = e f y) : x = y := by
 have hc : (f.p : Int) ^ f.R.m = f.q := card h
 unfold e at he
 rw [inF_id h0 h1, inF_id g0 g1] at he
 rw [← Rg.num_elt f.R h0 (by rw [hc]; exact h1), ← Rg.num_elt f.R g0 (by rw [hc]; exact g1), he]
theorem e_add (h : Shape f) (x y : Int) : e f (addF f x y) = f.R.vadd (e f x) (e f y) := by
 have := addF_lt h x y
 unfold e
 rw [inF_id this.1 this.2]
 exact Rg.elt_addc f.R _ _
theorem e_mul (h : Shape f) (x y : Int) : e f (mulF f x y) = f.R.mul (e f x) (e f y) := by
 have := mulF_lt h x y
 unfold e
 rw [inF_id this.1 this.2]
 exact Rg.elt_mulc f.R _ _
theorem e_zero (h : Shape f) : e f 0 = f.R.vzero := by
 have := h.bd
 unfold e
 rw [inF_id (by omega) (by omega)]
 exact Rg.elt_zero f.R
theorem e_in (h : Shape f) (x : Int) : e f (inF f x) = e f x := by
 have := inF_lt h x
 unfold e
 rw [inF_id this.1 this.2]
theorem addF_assoc (h : Shape f) (x y z : Int) : addF f (addF f x y) z = addF f x (addF f y z) := by
 have h1 := addF_lt h (addF f x y) z
 have h2 := addF_lt h x (addF f y z)
 refine e_inj h h1.1 h1.2 h2.1 h2.2 ?_
 rw [e_add h, e_add h, e_add h, e_add h]
 funext j
 show (e f x) j + (e f y) j + (e f z) j = (e f x) j + ((e f y) j + (e f z) j)
 grind
theorem addF_zero (h : Shape f) (x : Int) : addF f x 0 = inF f x := by
 have h1 := addF_lt h x 0
 have h2 := inF_lt h x
 refine e_inj h h1.1 h1.2 h2.1 h2.2 ?_
 rw [e_add h, e_zero h, e_in h]
 funext j
 exact Fin.add_zero _
end Shape
def accF (f : Fld) (b : Int) (l p : List Int) : Nat → Int
 | 0 => b
 | n + 1 => addF f (accF f b l p n) (mulF f (ix 0 l n) (ix 0 p n))
theorem accF_dot {f : Fld} (h : Shape f) {b : Int} (h0 : 0 ≤ b) (h1 : b < f.q) (l p : List Int) : ∀ n, accF f b l p n = addF f b (dotTo f l p n)
 | 0 => by simp only [accF, dotTo]; rw [h.addF_zero, inF_id h0 h1]
 | n + 1 => by simp only [accF, dotTo]; rw [accF_dot h h0 h1 l p n, h.addF_assoc]
theorem dotTo_lt {f : Fld} (h : Shape f) (l p : List Int) : ∀ n, 0 ≤ dotTo f l p n ∧ dotTo f l p n < f.q
 | 0 => by have := h.bd; simp only [dotTo]; omega
 | n + 1 => h.addF_lt _ _
theorem dotTo_end {f : Fld} (h : Shape f) {l p : List Int} {n : Nat} (hz : ∀ k : Nat, n ≤ k → inF f (ix 0 l k) = 0 ∨ inF f (ix 0 p k) = 0) : ∀ k, dotTo f l p (n + k) = dotTo f l p n
 | 0 => rfl
 | k + 1 => by
  show addF f (dotTo f l p (n + k)) (mulF f (ix 0 l ((n + k : Nat) : Int)) (ix 0 p ((n + k : Nat) : Int))) = _
  have h2 := dotTo_lt h l p n
  rw [mulF_zero h (hz (n + k) (by omega)), h.addF_zero, dotTo_end h hz k, inF_id h2.1 h2.2]
end Go.Cw
set_option linter.unusedVariables false
set_option linter.unusedSimpArgs false
set_option linter.unusedSectionVars false
namespace Go.Cw
abbrev KF (f : Fld) (h : FOk f) : Type := Rg.Kt f.R h.field
noncomputable def ke {f : Fld} (h : FOk f) (x : Int) : KF f h := ⟨Shape.e f x, Rg.elt_el f.R _⟩
section
variable {f : Fld} (h : FOk f)
theorem ke_inj {x y : Int} (h0 : 0 ≤ x) (h1 : x < f.q) (g0 : 0 ≤ y) (g1 : y < f.q) (e : ke h x = ke h y) : x = y := Shape.e_inj h.1 h0 h1 g0 g1 (congrArg Rg.Kt.v e)
theorem ke_add (x y : Int) : ke h (addF f x y) = ke h x + ke h y := Rg.Kt.ext (Shape.e_add h.1 x y)
theorem ke_mul (x y : Int) : ke h (mulF f x y) = ke h x * ke h y := Rg.Kt.ext (Shape.e_mul h.1 x y)
theorem ke_zero : ke h 0 = 0 := Rg.Kt.ext (Shape.e_zero h.1)
theorem ke_one : ke h 1 = 1 := by
 apply Rg.Kt.ext
 show Shape.e f 1 = f.R.e0
 have := h.1.bd
 unfold Shape.e
 rw [inF_id (by omega) (by omega)]
 exact Rg.elt_one f.R
theorem ke_in (x : Int) : ke h (inF f x) = ke h x := Rg.Kt.ext (Shape.e_in h.1 x)
theorem ke_eq_zero {x : Int} (h0 : 0 ≤ x) (h1 : x < f.q) : ke h x = 0 ↔ x = 0 := by
 have := h.1.bd
 exact ⟨fun e => ke_inj h h0 h1 (by omega) (by omega) (by rw [e, ke_zero]), fun e => by rw [e, ke_zero]⟩
end
def addTo1 (f : Fld) (x a y : Int) : Int := if y = 0 then x else addF f x (mulF f a y)
def addToL (f : Fld) (v : List Int) (a : Int) (u : List Int) : List Int := mapR (fun i => addTo1 f (ix 0 v i) a (ix 0 u i)) v.length
@[simp] theorem length_addToL (f : Fld) (v : List Int) (a : Int) (u : List Int) : (addToL f v a u).length = v.length := by unfold addToL; rw [length_mapR]; omega
theorem outF_mapR {f : Fld} {g : Int → Int} {n : Int} (h : ∀ i, 0 ≤ i → i < n → 0 ≤ g i ∧ g i < f.q) : ¬ outF f (mapR g n) := by
 rintro ⟨x, hx, hb⟩
 unfold mapR at hx
 obtain ⟨i, hi, rfl⟩ := List.mem_map.1 hx
 rw [List.mem_range] at hi
 exact hb (h i (by omega) (by omega))
theorem ix_ok {f : Fld} (hS : Shape f) {l : List Int} (h : ¬ outF f l) (i : Int) : 0 ≤ ix 0 l i ∧ ix 0 l i < f.q := by
 have hb := hS.bd
 by_cases g : i.toNat < l.length
 ·have := outF_no h (x := ix 0 l i) (by unfold ix; simp [List.getD, g])
  exact this
 ·have : ix 0 l i = 0 := by unfold ix; simp [List.getD]; rw [List.getElem?_eq_none (by omega)]; rfl
  rw [this]; omega
end Go.Cw
set_option linter.unusedVariables false
set_option linter.unusedSimpArgs false
set_option linter.unusedSectionVars false
namespace Go.Cw
def addTo (f : Fld) (v : List Int) (a : Int) (u : List Int) : List Int := mapR (fun i => if ix 0 u i = 0 then ix 0 v i else addF f (ix 0 v i) (mulF f a (ix 0 u i))) v.length
@[simp] theorem length_addTo (f : Fld) (v : List Int) (a : Int) (u : List Int) : (addTo f v a u).length = v.length := by unfold addTo; rw [length_mapR]; omega
theorem ix_addTo (f : Fld) (v : List Int) (a : Int) (u : List Int) {i : Int} (h0 : 0 ≤ i) (h1 : i < v.length) : ix 0 (addTo f v a u) i = if ix 0 u i = 0 then ix 0 v i else addF f (ix 0 v i) (mulF f a (ix 0 u i)) := ix_mapR 0 _ h0 h1
theorem ext_ix {α : Type} (d : α) {a b : List α} (hl : a.length = b.length) (h : ∀ j : Int, 0 ≤ j → j < a.length → ix d a j = ix d b j) : a = b := by
 apply List.ext_getElem?
 intro i
 by_cases hi : i < a.length
 ·have h1 := ix_get d a (i : Int) (by omega) (by omega)
  have h2 := ix_get d b (i : Int) (by omega) (by omega)
  rw [Int.toNat_natCast] at h1 h2
  rw [h1, h2, h i (by omega) (by omega)]
 ·rw [List.getElem?_eq_none (by omega), List.getElem?_eq_none (by omega)]
def combTo (f : Fld) (x : List Int) (rows : List (List Int)) (cols : Int) : Nat → List Int
 | 0 => List.replicate cols.toNat 0
 | k + 1 => if ix 0 x k = 0 then combTo f x rows cols k else addTo f (combTo f x rows cols k) (ix 0 x k) (ix [] rows k)
@[simp] theorem length_combTo (f : Fld) (x : List Int) (rows : List (List Int)) (cols : Int) : ∀ k, (combTo f x rows cols k).length = cols.toNat
 | 0 => by simp [combTo]
 | k + 1 => by
  unfold combTo
  split
  ·exact length_combTo f x rows cols k
  ·rw [length_addTo]; exact length_combTo f x rows cols k
def comb (f : Fld) (x : List Int) (rows : List (List Int)) (cols : Int) : List Int := combTo f x rows cols (min x.length rows.length)
theorem length_comb (f : Fld) (x : List Int) (rows : List (List Int)) (cols : Int) : (comb f x rows cols).length = cols.toNat := length_combTo _ _ _ _ _
structure Mat where
 cols : Int
 rows : List (List Int)
def Mat.no : Mat := ⟨0, []⟩
def ragged (m : Mat) : Prop := ∃ l ∈ m.rows, (l.length : Int) ≠ m.cols
def badRow (f : Fld) (m : Mat) : Prop := ∃ l ∈ m.rows, outF f l
def sizeBad (m : Mat) : Prop := (m.cols < 0 ∨ 256 < m.cols) ∨ 256 < (m.rows.length : Int)
open Classical in
noncomputable def matErr (f : Fld) (m : Mat) : Int := if sizeBad m then 3 else if ragged m then 3 else if badRow f m then 2 else 0
theorem matErr_zero {f : Fld} {m : Mat} : matErr f m = 0 ↔ ¬ sizeBad m ∧ ¬ ragged m ∧ ¬ badRow f m := by
 unfold matErr
 constructor
 ·intro h
  split at h
  ·omega
  ·split at h
   ·omega
   ·split at h
    ·omega
    ·exact ⟨by assumption, by assumption, by assumption⟩
 ·rintro ⟨h1, h2, h3⟩; rw [if_neg h1, if_neg h2, if_neg h3]
theorem ragged_at {m : Mat} {i : Int} (h0 : 0 ≤ i) (h1 : i < m.rows.length) (h : ((ix [] m.rows i).length : Int) ≠ m.cols) : ragged m := ⟨_, ix_mem [] m.rows h0 h1, h⟩
theorem row_len {f : Fld} {m : Mat} (h : matErr f m = 0) {i : Int} (h0 : 0 ≤ i) (h1 : i < m.rows.length) : ((ix [] m.rows i).length : Int) = m.cols :=
 Classical.byContradiction fun hn => (matErr_zero.1 h).2.1 (ragged_at h0 h1 hn)
theorem mat_size {f : Fld} {m : Mat} (h : matErr f m = 0) : 0 ≤ m.cols ∧ m.cols ≤ 256 ∧ (m.rows.length : Int) ≤ 256 := by
 have := (matErr_zero.1 h).1
 unfold sizeBad at this
 omega
end Go.Cw
set_option linter.unusedVariables false
set_option linter.unusedSimpArgs false
set_option linter.unusedSectionVars false
namespace Go.Cw
def mkM (R C : Int) (g : Int → Int → Int) : List (List Int) := mapR (fun i => mapR (fun j => g i j) C) R
@[simp] theorem length_mkM (R C : Int) (g : Int → Int → Int) : (mkM R C g).length = R.toNat := length_mapR _ _
end Go.Cw
set_option linter.unusedVariables false
set_option linter.unusedSimpArgs false
set_option linter.unusedSectionVars false
namespace Go.Cw
noncomputable def invX (f : Fld) (x : Int) : Int := if inF f x = 0 then 0 else ix 0 f.exps ((f.q - 1 - ix 0 f.logs (inF f x)) % (f.q - 1))
theorem invX_spec {f : Fld} (h : FOk f) {x : Int} (hx : inF f x ≠ 0) : mulF f x (invX f x) = 1 ∧ 1 ≤ invX f x ∧ invX f x < f.q := by
 have hS := h.1
 have hb := hS.bd
 have hi := inF_lt hS x
 have hl := h.log (c := inF f x) (by omega) hi.2
 have hm0 : 0 ≤ (f.q - 1 - ix 0 f.logs (inF f x)) % (f.q - 1) := Int.emod_nonneg _ (by omega)
 have hm1 : (f.q - 1 - ix 0 f.logs (inF f x)) % (f.q - 1) < f.q - 1 := Int.emod_lt_of_pos _ (by omega)
 have he := h.exp_ix hm0 hm1
 have hy : invX f x = ix 0 f.exps ((f.q - 1 - ix 0 f.logs (inF f x)) % (f.q - 1)) := by unfold invX; rw [if_neg hx]
 have hly := h.log (c := invX f x) (by rw [hy]; exact he.2.1) (by rw [hy]; exact he.2.2)
 have e1 := h.exp_ix hly.1 hly.2.1
 have e2 : ix 0 f.logs (invX f x) = (f.q - 1 - ix 0 f.logs (inF f x)) % (f.q - 1) := by
  have a := h.ixOf_exp hly.1 hly.2.1
  have b := h.ixOf_exp hm0 hm1
  rw [← hy] at b
  rw [e1.1, hly.2.2] at a
  rw [← a, b]
 refine ⟨?_, by rw [hy]; exact he.2.1, by rw [hy]; exact he.2.2⟩
 unfold mulF
 rw [inF_id (x := invX f x) (by rw [hy]; have := he.2.1; omega) (by rw [hy]; exact he.2.2), ← h.mul_log (by omega) hi.2 (by rw [hy]; exact he.2.1) (by rw [hy]; exact he.2.2), e2]
 have hz : (ix 0 f.logs (inF f x) + (f.q - 1 - ix 0 f.logs (inF f x)) % (f.q - 1)) % (f.q - 1) = 0 := by
  rw [Int.add_emod_emod, show ix 0 f.logs (inF f x) + (f.q - 1 - ix 0 f.logs (inF f x)) = f.q - 1 by omega]
  exact Int.emod_self
 rw [hz]
 have := (h.exp_ix (n := 0) (by omega) (by omega)).1
 rw [this]
 exact Rg.powc_zero f.R _
theorem invX_uniq {f : Fld} (h : FOk f) {x y : Int} (y0 : 1 ≤ y) (y1 : y < f.q) (e : mulF f x y = 1) : y = invX f x := by
 have hS := h.1
 have hb := hS.bd
 have hx : inF f x ≠ 0 := by
  intro hz
  rw [mulF_zero hS (.inl hz)] at e
  omega
 have hs := invX_spec h hx
 refine ke_inj h (by omega) y1 (by omega) hs.2.2 ?_
 have e1 : ke h x * ke h y = 1 := by rw [← ke_mul, e, ke_one]
 have e2 : ke h x * ke h (invX f x) = 1 := by rw [← ke_mul, hs.1, ke_one]
 have : ke h y = ke h y * (ke h x * ke h (invX f x)) := by rw [e2, Fi.mul_one]
 rw [this, ← Fi.mul_assoc, Fi.mul_comm (ke h y), e1, Fi.one_mul]
def invF (f : Fld) (x : Int) : Int := (((List.range f.q.toNat).map fun n : Nat => (n : Int)).find? fun y => decide (1 ≤ y ∧ mulF f x y = 1)).getD 0
theorem invF_eq {f : Fld} (h : FOk f) (x : Int) : invF f x = invX f x := by
 have hb := h.1.bd
 unfold invF
 cases hf : ((List.range f.q.toNat).map fun n : Nat => (n : Int)).find? fun y => decide (1 ≤ y ∧ mulF f x y = 1) with
 | none =>
  have hn := List.find?_eq_none.1 hf
  by_cases hx : inF f x = 0
  ·unfold invX; rw [if_pos hx]; rfl
  ·have hs := invX_spec h hx
   exfalso
   refine hn (invX f x) (List.mem_map.2 ⟨(invX f x).toNat, List.mem_range.2 (by omega), by omega⟩) ?_
   simp only [decide_eq_true_eq]
   exact ⟨hs.2.1, hs.1⟩
 | some y =>
  have h1 := List.find?_some hf
  have h2 := List.mem_of_find?_eq_some hf
  simp only [decide_eq_true_eq] at h1
  obtain ⟨n, hn, rfl⟩ := List.mem_map.1 h2
  have := List.mem_range.1 hn
  exact invX_uniq h (y := (n : Int)) h1.1 (by have : (n : Int) < f.q.toNat := by omega
                                              rw [Int.toNat_of_nonneg (by omega)] at this; exact this) h1.2
theorem invF_zero {f : Fld} (h : FOk f) {x : Int} (hx : inF f x = 0) : invF f x = 0 := by rw [invF_eq h]; unfold invX; rw [if_pos hx]
theorem invF_exp {f : Fld} (h : FOk f) {x : Int} (hx : inF f x ≠ 0) : invF f x = ix 0 f.exps ((f.q - 1 - ix 0 f.logs (inF f x)) % (f.q - 1)) := by rw [invF_eq h]; unfold invX; rw [if_neg hx]
theorem invF_spec {f : Fld} (h : FOk f) {x : Int} (hx : inF f x ≠ 0) : mulF f x (invF f x) = 1 ∧ 1 ≤ invF f x ∧ invF f x < f.q := by rw [invF_eq h]; exact invX_spec h hx
theorem invF_uniq {f : Fld} (h : FOk f) {x y : Int} (y0 : 1 ≤ y) (y1 : y < f.q) (e : mulF f x y = 1) : y = invF f x := by rw [invF_eq h]; exact invX_uniq h y0 y1 e
theorem invF_none {f : Fld} (h : FOk f) {x : Int} (hn : ∀ y : Int, 1 ≤ y → y < f.q → mulF f x y ≠ 1) : invF f x = 0 := by
 by_cases hx : inF f x = 0
 ·exact invF_zero h hx
 ·have hs := invF_spec h hx
  exact absurd hs.1 (hn _ hs.2.1 hs.2.2)
def scaleF (f : Fld) (a : Int) (v : List Int) : List Int := mapR (fun i => mulF f a (ix 0 v i)) v.length
@[simp] theorem length_scaleF (f : Fld) (a : Int) (v : List Int) : (scaleF f a v).length = v.length := by unfold scaleF; rw [length_mapR]; omega
theorem ix_scaleF (f : Fld) (a : Int) (v : List Int) {i : Int} (h0 : 0 ≤ i) (h1 : i < v.length) : ix 0 (scaleF f a v) i = mulF f a (ix 0 v i) := ix_mapR 0 _ h0 h1
theorem scaleF_set (f : Fld) (a : Int) (v : List Int) {i : Int} (h0 : 0 ≤ i) (h1 : i < v.length) : mixL (scaleF f a v) (List.replicate v.length 0) (i + 1) = (mixL (scaleF f a v) (List.replicate v.length 0) i).set i.toNat (mulF f a (ix 0 v i)) :=
 (mixL_set _ _ h0 (by simpa using h1) (by simp) (ix_scaleF f a v h0 h1).symm).symm
def mixG {α : Type} (l r : List α) (i : Int) : List α := l.take i.toNat ++ r.drop i.toNat
theorem mixG_zero {α : Type} (l r : List α) : mixG l r 0 = r := by simp [mixG]
theorem length_mixG {α : Type} (l r : List α) {i : Int} (h : l.length = r.length) (hi : 0 ≤ i) (hi2 : i ≤ l.length) : (mixG l r i).length = l.length := by simp [mixG]; omega
theorem mixG_all {α : Type} (l r : List α) {i : Int} (h : (l.length : Int) ≤ i) (h2 : l.length = r.length) : mixG l r i = l := by
 unfold mixG; rw [List.take_of_length_le (by omega), List.drop_eq_nil_of_le (by omega), List.append_nil]
theorem mixG_set {α : Type} (d : α) (l r : List α) {i : Int} (h0 : 0 ≤ i) (h1 : i < l.length) (h : l.length = r.length) : mixG l r (i + 1) = (mixG l r i).set i.toNat (ix d l i) := by
 have hx := ix_get d l i h0 h1
 apply List.ext_getElem?
 intro j
 unfold mixG
 rw [List.getElem?_set]
 simp only [List.getElem?_append, List.length_take, List.getElem?_take, List.getElem?_drop, List.length_append, List.length_drop]
 by_cases hij : i.toNat = j
 ·subst hij
  rw [if_pos rfl, if_pos (by omega), if_pos (by omega), if_pos (by omega), hx]
 ·rw [if_neg hij]
  by_cases hj : j < i.toNat
  ·rw [if_pos (by omega), if_pos (by omega), if_pos (by omega), if_pos (by omega)]
  ·rw [if_neg (by omega), if_neg (by omega)]
   congr 1; omega
end Go.Cw
namespace Go.Cw
def wneg (p : Int) : Nat → Int → Int
 | 0, _ => 0
 | n + 1, x => (p - x % p) % p + p * wneg p n (x / p)
def dneg (p : Int) : Nat → Int → List Int
 | 0, _ => []
 | n + 1, x => (p - x % p) % p :: dneg p n (x / p)
theorem wneg_succ (p : Int) {n : Nat} (h : 1 ≤ n) (x : Int) : wneg p n x = (p - x % p) % p + p * wneg p (n - 1) (x / p) := by
 obtain ⟨k, rfl⟩ : ∃ k, n = k + 1 := ⟨n - 1, by omega⟩
 rfl
theorem wneg_zero (p : Int) : ∀ n, wneg p n 0 = 0
 | 0 => rfl
 | n + 1 => by simp [wneg, wneg_zero p n]
theorem wneg_nonneg (p : Int) (hp : 2 ≤ p) : ∀ n x, 0 ≤ wneg p n x
 | 0, _ => Int.le_refl _
 | n + 1, x => by
  have h1 := wneg_nonneg p hp n (x / p)
  have h2 := Int.emod_nonneg (p - x % p) (show p ≠ 0 by omega)
  have h3 := Int.mul_nonneg (show 0 ≤ p by omega) h1
  simp only [wneg]; omega
theorem valS_dneg (p : Int) : ∀ n x, valS p (dneg p n x) = wneg p n x
 | 0, _ => rfl
 | n + 1, x => by
  simp only [dneg, valS, wneg, valS_dneg p n]
  rw [Int.mul_comm]; omega
theorem length_dneg (p : Int) : ∀ n x, (dneg p n x).length = n
 | 0, _ => rfl
 | n + 1, x => by simp [dneg, length_dneg p n]
theorem getElem?_dneg (p : Int) : ∀ (n : Nat) (x : Int) (j : Nat), j < n → (dneg p n x)[j]? = some ((p - (digS p n x).getD j 0) % p)
 | 0, _, _, h => by omega
 | n + 1, x, 0, _ => by simp [dneg, digS]
 | n + 1, x, j + 1, h => by
  have := getElem?_dneg p n (x / p) j (by omega)
  simpa [dneg, digS] using this
theorem ix_dneg (p : Int) (n : Nat) (x : Int) {i : Int} (h0 : 0 ≤ i) (h1 : i < n) : ix 0 (dneg p n x) i = (p - ix 0 (digS p n x) i) % p := by
 have := getElem?_dneg p n x i.toNat (by omega)
 unfold ix
 simp only [List.getD, this, Option.getD_some]
theorem dneg_mem (p : Int) (hp : 2 ≤ p) : ∀ (n : Nat) (x : Int), ∀ c ∈ dneg p n x, 0 ≤ c ∧ c < p
 | 0, _, c, h => by simp [dneg] at h
 | n + 1, x, c, h => by
  rcases List.mem_cons.1 h with h1 | h1
  ·rw [h1]; exact ⟨Int.emod_nonneg _ (by omega), Int.emod_lt_of_pos _ (by omega)⟩
  ·exact dneg_mem p hp n _ c h1
theorem Shape.negc_wneg {f : Fld} (h : Shape f) (x : Int) : f.R.negc x = wneg f.P f.M.toNat x := by
 have hb := h.bd
 have hP := h.pI
 have hN := h.mN
 rw [← valS_dneg]
 show f.R.num (f.R.vneg (f.R.elt x)) = _
 rw [h.num]
 congr 1
 apply List.ext_getElem?
 intro j
 by_cases hj : j < f.R.m
 ·rw [getElem?_dneg _ _ _ _ (by omega)]
  have e : (dl f.R.m (f.R.vneg (f.R.elt x)))[j]? = some (((f.R.vneg (f.R.elt x)) j).val : Int) := by simp [dl, hj]
  rw [e]
  have hx := h.dig_ix x (i := (j : Int)) (by omega) (by omega)
  have e1 := h.elt_ix x (i := (j : Int)) (by omega)
  simp only [Int.toNat_natCast] at e1
  simp only [ix, Int.toNat_natCast] at hx e1
  congr 1
  show (((- f.R.elt x j : Fin f.p).val : Nat) : Int) = _
  rw [e1]
  generalize (digS f.P f.M.toNat x).getD j 0 = c at hx
  have hc : ((Fin.ofNat f.p c.toNat : Fin f.p).val : Int) = c := by
   have := fin_val_int (p := f.p) hx.1 (by omega)
   exact this
  have hneg : ∀ a : Fin f.p, ((-a : Fin f.p).val : Int) = ((f.p : Int) - a.val) % f.p := fun a => by
   have : (-a : Fin f.p).val = (f.p - a.val) % f.p := by rw [Fin.neg_def]
   rw [this]
   have ha := a.isLt
   rw [Int.natCast_emod, Int.ofNat_sub (by omega)]
  rw [hneg, hc, hP]
 ·rw [List.getElem?_eq_none (by rw [length_dl]; omega), List.getElem?_eq_none (by rw [length_dneg]; omega)]
end Go.Cw
set_option linter.unusedVariables false
set_option linter.unusedSimpArgs false
set_option linter.unusedSectionVars false
namespace Go.Cw
def pivK (X : List (List Int)) (c p : Int) : Int := p + ((X.drop p.toNat).takeWhile fun row => decide (ix 0 row c = 0)).length
theorem pivK_eq {X : List (List Int)} {c p k : Int} (h0 : 0 ≤ p) (h1 : p ≤ k) (h2 : k ≤ X.length) (hz : ∀ z : Int, p ≤ z → z < k → ix 0 (ix [] X z) c = 0) (he : k = X.length ∨ ix 0 (ix [] X k) c ≠ 0) : pivK X c p = k := by
 have key : ∀ (n : Nat) (L : List (List Int)) (j : Int), (∀ z : Int, 0 ≤ z → z < j → ix 0 (ix [] L z) c = 0) → 0 ≤ j → j ≤ L.length → (j = L.length ∨ ix 0 (ix [] L j) c ≠ 0) → L.length = n →
   ((L.takeWhile fun row => decide (ix 0 row c = 0)).length : Int) = j := by
  intro n
  induction n with
  | zero =>
   intro L j hz j0 j1 _ hl
   have : L = [] := List.eq_nil_of_length_eq_zero hl
   subst this
   simp at j1 ⊢; omega
  | succ n ih =>
   intro L j hz j0 j1 he hl
   cases L with
   | nil => simp at hl
   | cons x L =>
    by_cases hj : j = 0
    ·subst hj
     rcases he with he | he
     ·simp at he; omega
     ·have hx0 : ¬ ix 0 x c = 0 := by simpa [ix, List.getD] using he
      rw [List.takeWhile_cons_of_neg (by simp [hx0])]; simp
    ·have hx : ix 0 x c = 0 := by have := hz 0 (by omega) (by omega); simpa [ix, List.getD] using this
     rw [List.takeWhile_cons_of_pos (by simp [hx])]
     have hsh : ∀ z : Int, 0 ≤ z → ix [] (x :: L) (z + 1) = ix [] L z := fun z z0 => by
      simp only [ix, List.getD]
      rw [show (z + 1).toNat = z.toNat + 1 by omega, List.getElem?_cons_succ]
     have := ih L (j - 1) (fun z z0 z1 => by rw [← hsh z z0]; exact hz (z + 1) (by omega) (by omega)) (by omega) (by simp at j1; omega)
      (by
       rcases he with he | he
       ·left; simp at he; omega
       ·right; rw [← hsh (j - 1) (by omega), show j - 1 + 1 = j by omega]; exact he) (by simpa using hl)
     simp only [List.length_cons]
     omega
 unfold pivK
 have hd : ∀ z : Int, 0 ≤ z → ix [] (X.drop p.toNat) z = ix [] X (p + z) := fun z z0 => by
  simp only [ix, List.getD, List.getElem?_drop]
  rw [show p.toNat + z.toNat = (p + z).toNat by omega]
 have := key _ (X.drop p.toNat) (k - p) (fun z z0 z1 => by rw [hd z z0]; exact hz _ (by omega) (by omega)) (by omega) (by rw [List.length_drop]; omega)
  (by
   rcases he with he | he
   ·left; rw [List.length_drop]; omega
   ·right; rw [hd _ (by omega), show p + (k - p) = k by omega]; exact he) rfl
 omega
def swp {α : Type} (d : α) (l : List α) (p k : Int) : List α := (l.set p.toNat (ix d l k)).set k.toNat (ix d l p)
@[simp] theorem length_swp {α : Type} (d : α) (l : List α) (p k : Int) : (swp d l p k).length = l.length := by simp [swp]
structure El where
 X : List (List Int)
 Y : List (List Int)
 piv : List Int
 det : Int
def clr (f : Fld) (c p : Int) (X Y : List (List Int)) : Nat → List (List Int) × List (List Int)
 | 0 => (X, Y)
 | n + 1 =>
  let (A, B) := clr f c p X Y n
  let x := ix 0 (ix [] A n) c
  if (n : Int) ≠ p ∧ x ≠ 0 then (A.set n (addTo f (ix [] A n) (negF f x) (ix [] A p)), B.set n (addTo f (ix [] B n) (negF f x) (ix [] B p))) else (A, B)
def ph1 (s : El) (Z : List (List Int)) (k : Int) : List (List Int) := if k ≠ s.piv.length then swp [] Z s.piv.length k else Z
def phx (c : Int) (s : El) (k : Int) : Int := ix 0 (ix [] (ph1 s s.X k) s.piv.length) c
def ph2 (f : Fld) (c : Int) (s : El) (Z : List (List Int)) (k : Int) : List (List Int) :=
 if invF f (phx c s k) ≠ 1 then (ph1 s Z k).set s.piv.length (scaleF f (invF f (phx c s k)) (ix [] (ph1 s Z k) s.piv.length)) else ph1 s Z k
def colK (f : Fld) (c : Int) (s : El) (k : Int) : El :=
 let r := clr f c s.piv.length (ph2 f c s s.X k) (ph2 f c s s.Y k) s.X.length
 ⟨r.1, r.2, s.piv ++ [c], mulF f (if k ≠ s.piv.length then negF f s.det else s.det) (phx c s k)⟩
@[simp] theorem length_ph1 (s : El) (Z : List (List Int)) (k : Int) : (ph1 s Z k).length = Z.length := by unfold ph1; split <;> simp
@[simp] theorem length_ph2 (f : Fld) (c : Int) (s : El) (Z : List (List Int)) (k : Int) : (ph2 f c s Z k).length = Z.length := by unfold ph2; split <;> simp
def col (f : Fld) (c : Int) (s : El) : El :=
 if s.piv.length < s.X.length then (if pivK s.X c s.piv.length < s.X.length then colK f c s (pivK s.X c s.piv.length) else s) else s
def elim (f : Fld) (X Y : List (List Int)) : Nat → El
 | 0 => ⟨X, Y, [], 1⟩
 | n + 1 => col f n (elim f X Y n)
theorem length_clr (f : Fld) (c p : Int) (X Y : List (List Int)) : ∀ n, (clr f c p X Y n).1.length = X.length ∧ (clr f c p X Y n).2.length = Y.length
 | 0 => ⟨rfl, rfl⟩
 | n + 1 => by
  have ih := length_clr f c p X Y n
  simp only [clr]
  split <;> simp [ih]
theorem length_colK (f : Fld) (c : Int) (s : El) (k : Int) : (colK f c s k).X.length = s.X.length ∧ (colK f c s k).Y.length = s.Y.length := by
 unfold colK
 simp only
 constructor
 ·rw [(length_clr _ _ _ _ _ _).1]; simp
 ·rw [(length_clr _ _ _ _ _ _).2]; simp
theorem length_col (f : Fld) (c : Int) (s : El) : (col f c s).X.length = s.X.length ∧ (col f c s).Y.length = s.Y.length := by
 unfold col
 split
 ·split
  ·exact length_colK f c s _
  ·exact ⟨rfl, rfl⟩
 ·exact ⟨rfl, rfl⟩
theorem length_elim (f : Fld) (X Y : List (List Int)) : ∀ n, (elim f X Y n).X.length = X.length ∧ (elim f X Y n).Y.length = Y.length
 | 0 => ⟨rfl, rfl⟩
 | n + 1 => by
  have ih := length_elim f X Y n
  have := length_col f n (elim f X Y n)
  simp only [elim]
  omega
def good (f : Fld) (w : Nat) (X : List (List Int)) : Prop := ∀ l ∈ X, l.length = w ∧ ¬ outF f l
def wide (w : Nat) (X : List (List Int)) : Prop := ∀ l ∈ X, l.length = w
theorem ix_mem' {l : List (List Int)} {i : Int} (h0 : 0 ≤ i) (h1 : i < l.length) : ix [] l i ∈ l := ix_mem [] l h0 h1
theorem good_set {f : Fld} {w : Nat} {X : List (List Int)} (h : good f w X) {l : List Int} (h1 : l.length = w) (h2 : ¬ outF f l) (i : Nat) : good f w (X.set i l) := fun y hy => by
 rcases List.mem_or_eq_of_mem_set hy with h3 | h3
 ·exact h y h3
 ·subst h3; exact ⟨h1, h2⟩
theorem wide_set {w : Nat} {X : List (List Int)} (h : wide w X) {l : List Int} (h1 : l.length = w) (i : Nat) : wide w (X.set i l) := fun y hy => by
 rcases List.mem_or_eq_of_mem_set hy with h3 | h3
 ·exact h y h3
 ·subst h3; exact h1
theorem set_out {α : Type} {l : List α} {i : Nat} (h : ¬ i < l.length) (x : α) : l.set i x = l := List.set_eq_of_length_le (by omega)
theorem wide_put {w : Nat} {X : List (List Int)} (h : wide w X) {l : List Int} (i : Nat) (h1 : i < X.length → l.length = w) : wide w (X.set i l) := by
 by_cases hi : i < X.length
 ·exact wide_set h (h1 hi) i
 ·rw [set_out hi]; exact h
theorem wide_ix {w : Nat} {X : List (List Int)} (h : wide w X) {i : Int} (h0 : 0 ≤ i) (h1 : i < X.length) : (ix [] X i).length = w := h _ (ix_mem' h0 h1)
theorem good_wide {f : Fld} {w : Nat} {X : List (List Int)} (h : good f w X) : wide w X := fun l hl => (h l hl).1
theorem wide_swp {w : Nat} {X : List (List Int)} (h : wide w X) {p k : Int} (p0 : 0 ≤ p) (k0 : 0 ≤ k) (hpk : p < X.length ↔ k < X.length) : wide w (swp [] X p k) := by
 unfold swp
 refine wide_put (wide_put h _ fun hi => wide_ix h k0 (by omega)) _ fun hi => wide_ix h p0 (by simp at hi; omega)
theorem good_swp {f : Fld} {w : Nat} {X : List (List Int)} (h : good f w X) {p k : Int} (p0 : 0 ≤ p) (p1 : p < X.length) (k0 : 0 ≤ k) (k1 : k < X.length) : good f w (swp [] X p k) := by
 unfold swp
 have a := h _ (ix_mem' k0 k1)
 have b := h _ (ix_mem' p0 p1)
 exact good_set (good_set h a.1 a.2 _) b.1 b.2 _
theorem out_scale {f : Fld} (hS : Shape f) (a : Int) (v : List Int) : ¬ outF f (scaleF f a v) := outF_mapR fun i _ _ => hS.mulF_lt _ _
theorem out_addTo {f : Fld} (hS : Shape f) {v : List Int} (hv : ¬ outF f v) (a : Int) (u : List Int) : ¬ outF f (addTo f v a u) := outF_mapR fun i i0 i1 => by
 split
 ·exact ix_ok hS hv i
 ·exact hS.addF_lt _ _
theorem good_ph1 {f : Fld} {w : Nat} {s : El} {Z : List (List Int)} (h : good f w Z) {k : Int} (k0 : 0 ≤ k) (k1 : k < Z.length) (p1 : s.piv.length < Z.length) : good f w (ph1 s Z k) := by
 unfold ph1; split
 ·exact good_swp h (by omega) (by omega) k0 k1
 ·exact h
theorem wide_ph1 {w : Nat} {s : El} {Z : List (List Int)} (h : wide w Z) {k : Int} (k0 : 0 ≤ k) (hpk : (s.piv.length : Int) < Z.length ↔ k < Z.length) : wide w (ph1 s Z k) := by
 unfold ph1; split
 ·exact wide_swp h (by omega) k0 hpk
 ·exact h
theorem good_ph2 {f : Fld} (hS : Shape f) {w : Nat} {c : Int} {s : El} {Z : List (List Int)} (h : good f w Z) {k : Int} (k0 : 0 ≤ k) (k1 : k < Z.length) (p1 : s.piv.length < Z.length) : good f w (ph2 f c s Z k) := by
 have h1 := good_ph1 h k0 k1 p1
 unfold ph2; split
 ·exact good_set h1 (by rw [length_scaleF]; exact (h1 _ (ix_mem' (by omega) (by rw [length_ph1]; omega))).1) (out_scale hS _ _) _
 ·exact h1
theorem wide_ph2 {f : Fld} {w : Nat} {c : Int} {s : El} {Z : List (List Int)} (h : wide w Z) {k : Int} (k0 : 0 ≤ k) (hpk : (s.piv.length : Int) < Z.length ↔ k < Z.length) : wide w (ph2 f c s Z k) := by
 have h1 := wide_ph1 h k0 hpk
 unfold ph2; split
 ·exact wide_put h1 _ fun hi => by rw [length_scaleF]; exact wide_ix h1 (by omega) (by omega)
 ·exact h1
theorem good_clr {f : Fld} (hS : Shape f) {w : Nat} {c p : Int} {X Y : List (List Int)} (h : good f w X) : ∀ n, n ≤ X.length → good f w (clr f c p X Y n).1
 | 0, _ => h
 | n + 1, hn => by
  have ih := good_clr hS (c := c) (p := p) (Y := Y) h n (by omega)
  have hl := (length_clr f c p X Y n).1
  simp only [clr]
  split
  ·have := ih _ (ix_mem' (i := (n : Int)) (by omega) (by rw [hl]; omega))
   exact good_set ih (by rw [length_addTo]; exact this.1) (out_addTo hS this.2 _ _) _
  ·exact ih
theorem wide_clr {f : Fld} {w : Nat} {c p : Int} {X Y : List (List Int)} (h : wide w Y) : ∀ n, wide w (clr f c p X Y n).2
 | 0 => h
 | n + 1 => by
  have ih := wide_clr (f := f) (c := c) (p := p) (X := X) h n
  simp only [clr]
  split
  ·exact wide_put ih _ fun hi => by rw [length_addTo]; exact wide_ix ih (by omega) (by omega)
  ·exact ih
theorem piv_le (f : Fld) (X Y : List (List Int)) : ∀ n, (elim f X Y n).piv.length ≤ X.length ∧ (elim f X Y n).piv.length ≤ n
 | 0 => by simp [elim]
 | n + 1 => by
  have ih := piv_le f X Y n
  have hl := (length_elim f X Y n).1
  simp only [elim, col]
  split
  ·split
   ·simp only [colK, List.length_append, List.length_cons, List.length_nil]; omega
   ·omega
  ·omega
theorem pivK_ge {X : List (List Int)} {c p : Int} (h0 : 0 ≤ p) : p ≤ pivK X c p := by unfold pivK; omega
theorem good_elim {f : Fld} (hS : Shape f) {w : Nat} {X Y : List (List Int)} (h : good f w X) : ∀ n, good f w (elim f X Y n).X
 | 0 => h
 | n + 1 => by
  have ih := good_elim hS (Y := Y) h n
  simp only [elim, col]
  split
  ·split
   ·rename_i h1 h2
    have hk := pivK_ge (X := (elim f X Y n).X) (c := n) (p := (elim f X Y n).piv.length) (by omega)
    exact good_clr hS (good_ph2 hS ih (by omega) h2 h1) _ (by simp)
   ·exact ih
  ·exact ih
theorem wide_clr1 {f : Fld} {w : Nat} {c p : Int} {X Y : List (List Int)} (h : wide w X) : ∀ n, wide w (clr f c p X Y n).1
 | 0 => h
 | n + 1 => by
  have ih := wide_clr1 (f := f) (c := c) (p := p) (Y := Y) h n
  simp only [clr]
  split
  ·exact wide_put ih _ fun hi => by rw [length_addTo]; exact wide_ix ih (by omega) (by omega)
  ·exact ih
theorem wide_elim {f : Fld} {w : Nat} {X Y : List (List Int)} (h : wide w Y) (hy : Y = [] ∨ Y.length = X.length) : ∀ n, wide w (elim f X Y n).Y
 | 0 => h
 | n + 1 => by
  have ih := wide_elim (f := f) (X := X) h hy n
  have hl := length_elim f X Y n
  simp only [elim, col]
  split
  ·split
   ·rename_i h1 h2
    have hk := pivK_ge (X := (elim f X Y n).X) (c := n) (p := (elim f X Y n).piv.length) (by omega)
    refine wide_clr (wide_ph2 ih (by omega) ?_) _
    rcases hy with hy | hy
    ·have : (elim f X Y n).Y.length = 0 := by rw [hl.2, hy]; rfl
     omega
    ·omega
   ·exact ih
  ·exact ih
theorem good_ixlt {f : Fld} (hS : Shape f) {w : Nat} {X : List (List Int)} (h : good f w X) {i : Int} (h0 : 0 ≤ i) (h1 : i < X.length) (j : Int) : 0 ≤ ix 0 (ix [] X i) j ∧ ix 0 (ix [] X i) j < f.q := ix_ok hS (h _ (ix_mem' h0 h1)).2 j
end Go.Cw
set_option linter.unusedVariables false
set_option linter.unusedSimpArgs false
set_option linter.unusedSectionVars false
namespace Go.Cw
namespace La
variable {K : Type} [Fi K]
def sg (c : Nat) : K := if c % 2 = 1 then -1 else 1
def sk (c j : Nat) : Nat := if j < c then j else j + 1
def det : Nat → (Nat → Nat → K) → K
 | 0, _ => 1
 | n + 1, A => sm (fun c => sg c * (A 0 c * det n (fun i j => A (i + 1) (sk c j)))) (n + 1)
theorem det_succ (n : Nat) (A : Nat → Nat → K) : det (n + 1) A = sm (fun c => sg c * (A 0 c * det n (fun i j => A (i + 1) (sk c j)))) (n + 1) := rfl
theorem det_congr : ∀ {n : Nat} {A B : Nat → Nat → K}, (∀ i j, i < n → j < n → A i j = B i j) → det n A = det n B
 | 0, _, _, _ => rfl
 | n + 1, A, B, h => by
  rw [det_succ, det_succ]
  refine sm_congr fun c hc => ?_
  rw [h 0 c (by omega) hc, det_congr (n := n) (B := fun i j => B (i + 1) (sk c j)) fun i j hi hj => h (i + 1) (sk c j) (by omega) (by unfold sk; split <;> omega)]
theorem det_lin : ∀ {n : Nat} {A B C : Nat → Nat → K} (q : Nat) (x : K), q < n → (∀ i j, j ≠ q → C i j = A i j) → (∀ i j, j ≠ q → B i j = A i j) → (∀ i, C i q = A i q + x * B i q) → det n C = det n A + x * det n B
 | 0, _, _, _, q, x, hq, _, _, _ => by omega
 | n + 1, A, B, C, q, x, hq, hC, hB, hx => by
  rw [det_succ, det_succ, det_succ, ← sm_mul, ← sm_add]
  refine sm_congr fun c hc => ?_
  by_cases e : c = q
  ·subst e
   have e1 : det n (fun i j => C (i + 1) (sk c j)) = det n (fun i j => A (i + 1) (sk c j)) := det_congr fun i j _ _ => hC _ _ (by unfold sk; split <;> omega)
   have e2 : det n (fun i j => B (i + 1) (sk c j)) = det n (fun i j => A (i + 1) (sk c j)) := det_congr fun i j _ _ => hB _ _ (by unfold sk; split <;> omega)
   rw [e1, e2, hx 0, Fi.add_mul, Fi.mul_add]
   congr 1
   ac_rfl
  ·have hq' : (if q < c then q else q - 1) < n := by split <;> omega
   have hsk : ∀ j, sk c j = q ↔ j = (if q < c then q else q - 1) := fun j => by unfold sk; split <;> split <;> omega
   have ih := det_lin (n := n) (A := fun i j => A (i + 1) (sk c j)) (B := fun i j => B (i + 1) (sk c j)) (C := fun i j => C (i + 1) (sk c j)) (if q < c then q else q - 1) x hq'
    (fun i j hj => hC _ _ fun e => hj ((hsk j).1 e)) (fun i j hj => hB _ _ fun e => hj ((hsk j).1 e)) (fun i => by
     have e : sk c (if q < c then q else q - 1) = q := (hsk _).2 rfl
     show C (i + 1) (sk c _) = A (i + 1) (sk c _) + x * B (i + 1) (sk c _)
     rw [e]; exact hx _)
   rw [ih, hC 0 c e, hB 0 c e, Fi.mul_add, Fi.mul_add]
   congr 1
   ac_rfl
theorem sg_succ (c : Nat) : (sg (c + 1) : K) = -(sg c) := by
 unfold sg
 by_cases h : c % 2 = 1
 ·rw [if_pos h, if_neg (by omega), Fi.neg_neg]
 ·rw [if_neg h, if_pos (by omega)]
theorem sm_two {g : Nat → K} {q : Nat} : ∀ {n : Nat}, q + 1 < n → (∀ i, i < n → i ≠ q → i ≠ q + 1 → g i = 0) → sm g n = g q + g (q + 1)
 | n + 1, hq, h => by
  show sm g n + g n = _
  by_cases e : n = q + 1
  ·subst e
   rw [sm_one (k := q) (by omega) fun i hi hne => h i (by omega) hne (by omega)]
  ·rw [sm_two (q := q) (n := n) (by omega) fun i hi h1 h2 => h i (by omega) h1 h2, h n (by omega) (by omega) e, Fi.add_zero]
theorem det_adj : ∀ {n : Nat} {A : Nat → Nat → K} (q : Nat), q + 1 < n → (∀ i, A i q = A i (q + 1)) → det n A = 0
 | 0, _, q, h, _ => by omega
 | n + 1, A, q, hq, h => by
  rw [det_succ, sm_two (q := q) hq fun c hc h1 h2 => ?_]
  ·have e : det n (fun i j => A (i + 1) (sk (q + 1) j)) = det n (fun i j => A (i + 1) (sk q j)) := det_congr fun i j _ _ => by
    by_cases ej : j = q
    ·subst ej
     show A (i + 1) (sk (j + 1) j) = A (i + 1) (sk j j)
     rw [show sk (j + 1) j = j by unfold sk; rw [if_pos (by omega)], show sk j j = j + 1 by unfold sk; rw [if_neg (by omega)]]
     exact h _
    ·show A (i + 1) (sk (q + 1) j) = A (i + 1) (sk q j)
     rw [show sk (q + 1) j = sk q j by unfold sk; split <;> split <;> omega]
   rw [e, ← h 0, sg_succ, Fi.neg_mul, Fi.add_neg]
  ·have hz : det n (fun i j => A (i + 1) (sk c j)) = 0 := by
    by_cases hcq : c < q
    ·refine det_adj (n := n) (q - 1) (by omega) fun i => ?_
     show A (i + 1) (sk c (q - 1)) = A (i + 1) (sk c (q - 1 + 1))
     rw [show sk c (q - 1) = q by unfold sk; split <;> omega, show sk c (q - 1 + 1) = q + 1 by unfold sk; split <;> omega]
     exact h _
    ·refine det_adj (n := n) q (by omega) fun i => ?_
     show A (i + 1) (sk c q) = A (i + 1) (sk c (q + 1))
     rw [show sk c q = q by unfold sk; split <;> omega, show sk c (q + 1) = q + 1 by unfold sk; split <;> omega]
     exact h _
   show sg c * (A 0 c * _) = 0
   rw [hz, Fi.mul_zero, Fi.mul_zero]
def two (A : Nat → Nat → K) (q k : Nat) (u w : Nat → K) : Nat → Nat → K := fun i j => if j = q then u i else if j = k then w i else A i j
theorem det_anti {n q k : Nat} (hq : q < n) (hk : k < n) (hne : q ≠ k) (A : Nat → Nat → K) (h0 : ∀ u, det n (two A q k u u) = 0) (u w : Nat → K) : det n (two A q k w u) = -(det n (two A q k u w)) := by
 have l1 : ∀ u v w : Nat → K, det n (two A q k (fun i => u i + 1 * v i) w) = det n (two A q k u w) + 1 * det n (two A q k v w) := fun u v w => det_lin q 1 hq (fun i j hj => by unfold two; rw [if_neg hj, if_neg hj]) (fun i j hj => by unfold two; rw [if_neg hj, if_neg hj]) (fun i => by unfold two; rw [if_pos rfl, if_pos rfl, if_pos rfl])
 have l2 : ∀ u v w : Nat → K, det n (two A q k u (fun i => v i + 1 * w i)) = det n (two A q k u v) + 1 * det n (two A q k u w) := fun u v w => det_lin k 1 hk
  (fun i j hj => by unfold two; by_cases e : j = q; (rw [if_pos e, if_pos e]); (rw [if_neg e, if_neg e, if_neg hj, if_neg hj]))
  (fun i j hj => by unfold two; by_cases e : j = q; (rw [if_pos e, if_pos e]); (rw [if_neg e, if_neg e, if_neg hj, if_neg hj]))
  (fun i => by unfold two; rw [if_neg (Ne.symm hne), if_neg (Ne.symm hne), if_neg (Ne.symm hne), if_pos rfl, if_pos rfl, if_pos rfl])
 have e := h0 (fun i => u i + 1 * w i)
 rw [l1, l2, l2, h0 u, h0 w, Fi.zero_add, Fi.one_mul, Fi.one_mul, Fi.one_mul, Fi.add_zero] at e
 exact Fi.neg_unique e
theorem two_self (A : Nat → Nat → K) (q k : Nat) : two A q k (fun i => A i q) (fun i => A i k) = A := by
 funext i j
 unfold two
 split
 ·rename_i e; rw [e]
 ·split
  ·rename_i e; rw [e]
  ·rfl
theorem det_equal {n : Nat} : ∀ (d : Nat) {A : Nat → Nat → K} {q k : Nat}, q + 1 + d = k → k < n → (∀ i, A i q = A i k) → det n A = 0
 | 0, A, q, k, hd, hk, h => by
  subst hd
  exact det_adj q hk h
 | d + 1, A, q, k, hd, hk, h => by
  have hanti := det_anti (n := n) (q := k - 1) (k := k) (by omega) hk (by omega) A (fun u => by
   refine det_adj (k - 1) (by omega) fun i => ?_
   unfold two
   rw [if_pos rfl, if_neg (by omega), if_pos (by omega)]) (fun i => A i (k - 1)) (fun i => A i k)
  rw [two_self] at hanti
  have hz : det n (two A (k - 1) k (fun i => A i k) (fun i => A i (k - 1))) = 0 := by
   refine det_equal d (q := q) (k := k - 1) (by omega) (by omega) fun i => ?_
   unfold two
   rw [if_neg (by omega), if_neg (by omega), if_pos rfl]
   exact h i
  rw [hz] at hanti
  have := congrArg (fun x => -x) hanti
  simp only [Fi.neg_neg, Fi.neg_zero] at this
  exact this.symm
theorem det_same {n : Nat} {A : Nat → Nat → K} {q k : Nat} (hq : q < n) (hk : k < n) (hne : q ≠ k) (h : ∀ i, A i q = A i k) : det n A = 0 := by
 rcases Nat.lt_or_gt_of_ne hne with hl | hl
 ·exact det_equal (k - q - 1) (by omega) hk h
 ·exact det_equal (q - k - 1) (by omega) hq fun i => (h i).symm
theorem det_swap {n : Nat} (A : Nat → Nat → K) {q k : Nat} (hq : q < n) (hk : k < n) (hne : q ≠ k) : det n (two A q k (fun i => A i k) (fun i => A i q)) = -(det n A) := by
 have := det_anti hq hk hne A (fun u => det_same hq hk hne fun i => by unfold two; rw [if_pos rfl, if_neg (Ne.symm hne), if_pos rfl]) (fun i => A i q) (fun i => A i k)
 rwa [two_self] at this
structure RowF (n : Nat) (G : (Nat → Nat → K) → K) : Prop where
 congr : ∀ {A B : Nat → Nat → K}, (∀ i j, i < n → j < n → A i j = B i j) → G A = G B
 swap : ∀ (A : Nat → Nat → K) {p k : Nat}, p < n → k < n → p ≠ k → G (fun i => if i = p then A k else if i = k then A p else A i) = -(G A)
 scale : ∀ (A : Nat → Nat → K) {p : Nat} (a : K), p < n → G (fun i j => if i = p then a * A i j else A i j) = a * G A
 add : ∀ (A : Nat → Nat → K) {i p : Nat} (a : K), i < n → p < n → i ≠ p → G (fun i' j => if i' = i then A i' j + a * A p j else A i' j) = G A
theorem RowF.zero {n : Nat} {G : (Nat → Nat → K) → K} (g : RowF n G) {A : Nat → Nat → K} {p : Nat} (hp : p < n) (h : ∀ j, j < n → A p j = 0) : G A = 0 := by
 have := g.scale A (p := p) 0 hp
 rw [Fi.zero_mul] at this
 rw [← this]
 refine g.congr fun i j hi hj => ?_
 split
 ·rename_i e; rw [e, h j hj, Fi.zero_mul]
 ·rfl
def Rows (n : Nat) (R : Nat → Nat → K) (d : K) : Prop := ∀ G : (Nat → Nat → K) → K, RowF n G → G R = d * G idm
section
variable {n : Nat} (hR : ∀ R : Nat → Nat → K, ∃ d, Rows n R d)
include hR
end
theorem RowF.col {n : Nat} {G : (Nat → Nat → K) → K} (g : RowF n G) (A : Nat → Nat → K) {r k c : Nat} (hr : r < n) (hk : k < n) (hrk : r ≤ k) (hne : A k c ≠ 0) : (if k ≠ r then -(A k c) else A k c) * G (colA A A r k c) = G A := by
 let B : Nat → Nat → K := fun i => if i = r then A k else if i = k then A r else A i
 let C : Nat → Nat → K := fun i j => if i = r then Fi.inv (A k c) * B i j else B i j
 have hB : G B = if k ≠ r then -(G A) else G A := by
  by_cases e : k = r
  ·rw [if_neg (fun h => h e)]
   refine g.congr fun i j _ _ => ?_
   show (if i = r then A k else if i = k then A r else A i) j = _
   by_cases e1 : i = r
   ·rw [if_pos e1, e1, e]
   ·rw [if_neg e1, if_neg (by omega)]
  ·rw [if_pos e]
   exact g.swap A hr hk (Ne.symm e)
 have hC : G C = Fi.inv (A k c) * G B := g.scale B _ hr
 have hcl : ∀ t : Nat, t ≤ n → G (fun i j => if i < t ∧ i ≠ r then C i j + -(C i c) * C r j else C i j) = G C := by
  intro t
  induction t with
  | zero =>
   intro _
   exact g.congr fun i j _ _ => by rw [if_neg (by omega)]
  | succ t ih =>
   intro ht
   rw [← ih (by omega)]
   by_cases e : t = r
   ·exact g.congr fun i j _ _ => by
     by_cases h : i < t ∧ i ≠ r
     ·rw [if_pos h, if_pos ⟨by omega, h.2⟩]
     ·rw [if_neg h, if_neg (by omega)]
   ·have := g.add (fun i j => if i < t ∧ i ≠ r then C i j + -(C i c) * C r j else C i j) (i := t) (p := r) (-(C t c)) (by omega) hr e
    rw [← this]
    refine g.congr fun i j _ _ => ?_
    by_cases h : i = t
    ·subst h
     rw [if_pos ⟨by omega, e⟩, if_pos rfl, if_neg (by omega), if_neg (by omega)]
    ·rw [if_neg h]
     by_cases h2 : i < t ∧ i ≠ r
     ·rw [if_pos h2, if_pos ⟨by omega, h2.2⟩]
     ·rw [if_neg h2, if_neg (by omega)]
 have hfin : G (colA A A r k c) = G C := by
  rw [← hcl n (Nat.le_refl _)]
  refine g.congr fun i j hi _ => ?_
  unfold colA
  by_cases e : i = r
  ·rw [if_pos e, if_neg (by omega)]
   show _ = if i = r then Fi.inv (A k c) * B i j else B i j
   rw [if_pos e]
   show _ = _ * (if i = r then A k else if i = k then A r else A i) j
   rw [if_pos e]
  ·rw [if_neg e]
   have c1 : ∀ x, C i x = if i = k then A r x else A i x := fun x => by
    show (if i = r then Fi.inv (A k c) * B i x else B i x) = _
    rw [if_neg e]
    show (if i = r then A k else if i = k then A r else A i) x = _
    rw [if_neg e]
    split <;> rfl
   have c2 : ∀ x, C r x = Fi.inv (A k c) * A k x := fun x => by
    show (if r = r then Fi.inv (A k c) * B r x else B r x) = _
    rw [if_pos rfl]
    show _ * (if r = r then A k else if r = k then A r else A r) x = _
    rw [if_pos rfl]
   rw [if_pos (show i < n ∧ i ≠ r from ⟨hi, e⟩), c1, c1, c2]
 rw [hfin, hC, hB]
 by_cases e : k = r
 ·rw [if_neg (fun h => h e), if_neg (fun h => h e), ← Fi.mul_assoc, Fi.mul_inv hne, Fi.one_mul]
 ·rw [if_pos e, if_pos e, Fi.mul_neg, Fi.mul_neg, Fi.neg_mul, Fi.neg_neg, ← Fi.mul_assoc, Fi.mul_inv hne, Fi.one_mul]
end La
end Go.Cw
set_option linter.unusedVariables false
set_option linter.unusedSimpArgs false
set_option linter.unusedSectionVars false
namespace Go.Cw
section
variable {f : Fld} (h : FOk f)
theorem ke_neg (x : Int) : ke h (negF f x) = -ke h x := by
 apply Rg.Kt.ext
 have hn := h.1.negF_lt x
 show Shape.e f (negF f x) = f.R.vneg (Shape.e f x)
 unfold Shape.e
 rw [inF_id hn.1 hn.2]
 exact Rg.elt_negc f.R _
theorem ke_inv {x : Int} (hx : ke h x ≠ 0) : ke h (invF f x) = Fi.inv (ke h x) := by
 have hi : inF f x ≠ 0 := fun e => hx (by rw [← ke_in, e, ke_zero])
 have hs := invF_spec h hi
 have e1 : ke h x * ke h (invF f x) = 1 := by rw [← ke_mul, hs.1, ke_one]
 refine Fi.mul_left_cancel hx ?_
 rw [e1, Fi.mul_inv hx]
noncomputable def kv (v : List Int) : Nat → KF f h := fun j => ke h (v.getD j 0)
noncomputable def km (X : List (List Int)) : Nat → Nat → KF f h := fun i => kv h (X.getD i [])
theorem kv_out {v : List Int} {j : Nat} (hj : v.length ≤ j) : kv h v j = 0 := by
 unfold kv
 rw [show v.getD j 0 = 0 by simp only [List.getD]; rw [List.getElem?_eq_none hj]; rfl]
 exact ke_zero h
theorem ix_nat {α : Type} (d : α) (l : List α) (i : Nat) : ix d l (i : Int) = l.getD i d := by simp [ix]
theorem kv_ix (v : List Int) (j : Nat) : kv h v j = ke h (ix 0 v j) := by rw [ix_nat]; rfl
theorem km_ix (X : List (List Int)) (i j : Nat) : km h X i j = ke h (ix 0 (ix [] X i) j) := by rw [ix_nat, ix_nat]; rfl
theorem kv_addTo {v u : List Int} (hl : u.length ≤ v.length) (a : Int) (j : Nat) : kv h (addTo f v a u) j = kv h v j + ke h a * kv h u j := by
 by_cases hj : j < v.length
 ·rw [kv_ix, ix_addTo f v a u (by omega) (by omega), kv_ix h v, kv_ix h u]
  split
  ·rename_i e; rw [e, ke_zero, Fi.mul_zero, Fi.add_zero]
  ·rw [ke_add, ke_mul]
 ·rw [kv_out h (by rw [length_addTo]; omega), kv_out h (v := v) (by omega), kv_out h (v := u) (by omega), Fi.mul_zero, Fi.add_zero]
theorem kv_scale (a : Int) (v : List Int) (j : Nat) : kv h (scaleF f a v) j = ke h a * kv h v j := by
 by_cases hj : j < v.length
 ·rw [kv_ix, ix_scaleF f a v (by omega) (by omega), kv_ix, ke_mul]
 ·rw [kv_out h (by rw [length_scaleF]; omega), kv_out h (v := v) (by omega), Fi.mul_zero]
theorem km_set (X : List (List Int)) {i : Nat} (v : List Int) (hi : i < X.length) (i' : Nat) : km h (X.set i v) i' = if i' = i then kv h v else km h X i' := by
 unfold km
 by_cases e : i' = i
 ·subst e; rw [if_pos rfl]; simp [List.getD, hi]
 ·rw [if_neg e]; simp only [List.getD]; rw [List.getElem?_set_ne (Ne.symm e)]
theorem km_swp (X : List (List Int)) {p k : Nat} (hp : p < X.length) (hk : k < X.length) (i : Nat) : km h (swp [] X p k) i = if i = p then km h X k else if i = k then km h X p else km h X i := by
 unfold swp
 rw [show ((k : Int)).toNat = k by omega, show ((p : Int)).toNat = p by omega, km_set h _ _ (by simpa using hk), km_set h _ _ hp, ix_nat, ix_nat]
 by_cases e1 : i = k
 ·subst e1
  rw [if_pos rfl]
  by_cases e2 : i = p
  ·subst e2; rw [if_pos rfl]; rfl
  ·rw [if_neg e2, if_pos rfl]; rfl
 ·rw [if_neg e1]
  by_cases e2 : i = p
  ·rw [if_pos e2, if_pos e2]; rfl
  ·rw [if_neg e2, if_neg e2, if_neg e1]
theorem wide_get {w : Nat} {X : List (List Int)} (hw : wide w X) {i : Nat} (hi : i < X.length) : (X.getD i []).length = w := by
 have := wide_ix hw (i := (i : Int)) (by omega) (by omega)
 rwa [ix_nat] at this
theorem wide_le {w : Nat} {X : List (List Int)} (hw : wide w X) {i : Nat} (hi : i < X.length) (j : Nat) : (X.getD j []).length ≤ (X.getD i []).length := by
 rw [wide_get hw hi]
 by_cases hj : j < X.length
 ·rw [wide_get hw hj]; omega
 ·simp only [List.getD]; rw [List.getElem?_eq_none (by omega)]; simp
theorem km_clr {w wy : Nat} {X Y : List (List Int)} (hX : wide w X) (hY : wide wy Y) (hXY : Y = [] ∨ Y.length = X.length) {p : Nat} (hp : p < X.length) (c : Nat) : ∀ n : Nat, n ≤ X.length →
  (∀ i j, km h (clr f c p X Y n).1 i j = if i < n ∧ i ≠ p then km h X i j + -(km h X i c) * km h X p j else km h X i j) ∧
  (∀ i j, km h (clr f c p X Y n).2 i j = if i < n ∧ i ≠ p then km h Y i j + -(km h X i c) * km h Y p j else km h Y i j)
 | 0, _ => by
  constructor
  ·intro i j; rw [if_neg (by omega)]; rfl
  ·intro i j; rw [if_neg (by omega)]; rfl
 | n + 1, hn => by
  obtain ⟨ih1, ih2⟩ := km_clr hX hY hXY hp c n (by omega)
  have hl := length_clr f c p X Y n
  have wX := wide_clr1 (f := f) (c := (c : Int)) (p := (p : Int)) (Y := Y) hX n
  have wY := wide_clr (f := f) (c := (c : Int)) (p := (p : Int)) (X := X) hY n
  have hrow : ∀ j, km h (clr f c p X Y n).1 n j = km h X n j := fun j => by rw [ih1, if_neg (by omega)]
  have hrp : ∀ j, km h (clr f c p X Y n).1 p j = km h X p j := fun j => by rw [ih1, if_neg (by omega)]
  have hrowY : ∀ j, km h (clr f c p X Y n).2 n j = km h Y n j := fun j => by rw [ih2, if_neg (by omega)]
  have hrpY : ∀ j, km h (clr f c p X Y n).2 p j = km h Y p j := fun j => by rw [ih2, if_neg (by omega)]
  have hx : ke h (ix 0 (ix [] (clr f c p X Y n).1 n) c) = km h X n c := by rw [← hrow, km_ix]
  simp only [clr]
  by_cases hc : (n : Int) ≠ p ∧ ix 0 (ix [] (clr f c p X Y n).1 n) c ≠ 0
  ·rw [if_pos hc]
   refine ⟨fun i j => ?_, fun i j => ?_⟩
   ·simp only
    rw [km_set h _ _ (by rw [hl.1]; omega)]
    by_cases e : i = n
    ·subst e
     rw [if_pos rfl, if_pos ⟨by omega, by omega⟩, ix_nat, ix_nat, ix_nat, kv_addTo h (wide_le wX (by rw [hl.1]; omega) p), ke_neg]
     rw [ix_nat, ix_nat] at hx
     rw [hx]
     show km h (clr f c p X Y i).1 i j + _ * km h (clr f c p X Y i).1 p j = _
     rw [hrow, hrp]
    ·rw [if_neg e, ih1]
     by_cases e2 : i < n ∧ i ≠ p
     ·rw [if_pos e2, if_pos ⟨by omega, e2.2⟩]
     ·rw [if_neg e2, if_neg (by omega)]
   ·simp only
    by_cases hYn : n < Y.length
    ·rw [km_set h _ _ (by rw [hl.2]; exact hYn)]
     by_cases e : i = n
     ·subst e
      rw [if_pos rfl, if_pos ⟨by omega, by omega⟩, ix_nat, ix_nat, ix_nat, ix_nat, kv_addTo h (wide_le wY (by rw [hl.2]; exact hYn) p), ke_neg]
      rw [ix_nat, ix_nat] at hx
      rw [hx]
      show km h (clr f c p X Y i).2 i j + _ * km h (clr f c p X Y i).2 p j = _
      rw [hrowY, hrpY]
     ·rw [if_neg e, ih2]
      by_cases e2 : i < n ∧ i ≠ p
      ·rw [if_pos e2, if_pos ⟨by omega, e2.2⟩]
      ·rw [if_neg e2, if_neg (by omega)]
    ·have hY0 : Y = [] := by
      rcases hXY with e | e
      ·exact e
      ·omega
     have hz : ∀ i j, km h Y i j = 0 := fun i j => by rw [hY0]; exact kv_out h (by simp)
     rw [set_out (by rw [hl.2]; exact hYn), ih2]
     simp only [hz, Fi.mul_zero, Fi.add_zero, ite_self]
  ·rw [if_neg hc]
   have hz : n = p ∨ km h X n c = 0 := by
    by_cases e : n = p
    ·exact .inl e
    ·right
     have : ix 0 (ix [] (clr f c p X Y n).1 n) c = 0 := Classical.byContradiction fun hn => hc ⟨by omega, hn⟩
     rw [← hx, this, ke_zero]
   refine ⟨fun i j => ?_, fun i j => ?_⟩
   ·simp only
    rw [ih1]
    by_cases e : i = n
    ·subst e
     rw [if_neg (by omega)]
     rcases hz with e | e
     ·rw [if_neg (by omega)]
     ·rw [e, Fi.neg_zero, Fi.zero_mul, Fi.add_zero, ite_self]
    ·by_cases e2 : i < n ∧ i ≠ p
     ·rw [if_pos e2, if_pos ⟨by omega, e2.2⟩]
     ·rw [if_neg e2, if_neg (by omega)]
   ·simp only
    rw [ih2]
    by_cases e : i = n
    ·subst e
     rw [if_neg (by omega)]
     rcases hz with e | e
     ·rw [if_neg (by omega)]
     ·rw [e, Fi.neg_zero, Fi.zero_mul, Fi.add_zero, ite_self]
    ·by_cases e2 : i < n ∧ i ≠ p
     ·rw [if_pos e2, if_pos ⟨by omega, e2.2⟩]
     ·rw [if_neg e2, if_neg (by omega)]
theorem km_colK {w wy : Nat} {s : El} (hX : good f w s.X) (hY : wide wy s.Y) (hXY : s.Y = [] ∨ s.Y.length = s.X.length) {k c : Nat} (hr : s.piv.length < s.X.length) (hk : k < s.X.length) (hne : km h s.X k c ≠ 0) :
  (∀ i j, i < s.X.length → km h (colK f c s k).X i j = La.colA (km h s.X) (km h s.X) s.piv.length k c i j) ∧
  (∀ i j, i < s.X.length → km h (colK f c s k).Y i j = La.colA (km h s.X) (km h s.Y) s.piv.length k c i j) := by
 have hS := h.1
 have hwX := good_wide hX
 have p1 : ∀ Z : List (List Int), (Z = [] ∨ Z.length = s.X.length) → ∀ i j, km h (ph1 s Z k) i j = if i = s.piv.length then km h Z k j else if i = k then km h Z s.piv.length j else km h Z i j := by
  intro Z hZ i j
  rcases hZ with hZ | hZ
  ·subst hZ
   have hz : ∀ i j, km h ([] : List (List Int)) i j = 0 := fun i j => kv_out h (by simp)
   have : ph1 s [] k = [] := by unfold ph1; split <;> simp [swp]
   rw [this]
   simp only [hz, ite_self]
  ·unfold ph1
   split
   ·rw [km_swp h Z (by omega) (by omega)]
    split
    ·rfl
    ·split <;> rfl
   ·rename_i e
    have e2 : k = s.piv.length := by omega
    by_cases e1 : i = s.piv.length
    ·rw [if_pos e1, e1, e2]
    ·rw [if_neg e1, if_neg (by omega)]
 have hph : ke h (phx c s k) = km h s.X k c := by
  unfold phx
  rw [← km_ix, p1 s.X (.inr rfl), if_pos rfl]
 have hinv : ke h (invF f (phx c s k)) = Fi.inv (km h s.X k c) := by rw [← hph]; exact ke_inv h (by rw [hph]; exact hne)
 have p2 : ∀ Z : List (List Int), (Z = [] ∨ Z.length = s.X.length) → ∀ i j, km h (ph2 f c s Z k) i j = if i = s.piv.length then Fi.inv (km h s.X k c) * km h Z k j else if i = k then km h Z s.piv.length j else km h Z i j := by
  intro Z hZ i j
  have hp := p1 Z hZ
  unfold ph2
  split
  ·rcases hZ with hZ | hZ
   ·subst hZ
    have hz : ∀ i j, km h ([] : List (List Int)) i j = 0 := fun i j => kv_out h (by simp)
    have : ph1 s [] k = [] := by unfold ph1; split <;> simp [swp]
    rw [this]
    simp only [List.set_nil, hz, Fi.mul_zero, ite_self]
   ·rw [km_set h _ _ (by rw [length_ph1]; omega)]
    by_cases e : i = s.piv.length
    ·rw [if_pos e, if_pos e, kv_scale, hinv, ix_nat]
     show _ * km h (ph1 s Z k) s.piv.length j = _
     rw [hp, if_pos rfl]
    ·rw [if_neg e, if_neg e, hp, if_neg e]
  ·rename_i e
   have e1 : Fi.inv (km h s.X k c) = 1 := by
    rw [← hinv, Classical.not_not.1 e, ke_one]
   rw [hp]
   by_cases e2 : i = s.piv.length
   ·rw [if_pos e2, if_pos e2, e1, Fi.one_mul]
   ·rw [if_neg e2, if_neg e2]
 have g2 := good_ph2 hS (c := (c : Int)) hX (k := (k : Int)) (by omega) (by omega) hr
 have hYk : ((s.piv.length : Nat) : Int) < s.Y.length ↔ (k : Int) < s.Y.length := by
  rcases hXY with e | e
  ·have : s.Y.length = 0 := by rw [e]; rfl
   omega
  ·omega
 have w2 := wide_ph2 (f := f) (c := (c : Int)) (s := s) hY (k := (k : Int)) (by omega) (by omega)
 have lX := length_ph2 f c s s.X k
 have lY := length_ph2 f c s s.Y k
 have hXY2 : ph2 f c s s.Y k = [] ∨ (ph2 f c s s.Y k).length = (ph2 f c s s.X k).length := by
  rcases hXY with e | e
  ·left; apply List.eq_nil_of_length_eq_zero; rw [lY, e]; rfl
  ·right; omega
 obtain ⟨k1, k2⟩ := km_clr h (good_wide g2) w2 hXY2 (p := s.piv.length) (by omega) c s.X.length (by omega)
 have eX : ∀ i, i < s.X.length → i ≠ s.piv.length → km h (ph2 f c s s.X k) i c = if i = k then km h s.X s.piv.length c else km h s.X i c := fun i hi hne => by rw [p2 s.X (.inr rfl), if_neg hne]
 refine ⟨fun i j hi => ?_, fun i j hi => ?_⟩
 ·show km h (clr f c _ _ _ _).1 i j = _
  rw [k1]
  unfold La.colA
  by_cases e : i = s.piv.length
  ·rw [if_neg (by omega), if_pos e, p2 s.X (.inr rfl), if_pos e]
  ·rw [if_pos ⟨hi, e⟩, if_neg e, eX i hi e, p2 s.X (.inr rfl), if_neg e, p2 s.X (.inr rfl), if_pos rfl]
 ·show km h (clr f c _ _ _ _).2 i j = _
  rw [k2]
  unfold La.colA
  by_cases e : i = s.piv.length
  ·rw [if_neg (by omega), if_pos e, p2 s.Y hXY, if_pos e]
  ·rw [if_pos ⟨hi, e⟩, if_neg e, eX i hi e, p2 s.Y hXY, if_neg e, p2 s.Y hXY, if_pos rfl]
end
theorem pivK_spec (X : List (List Int)) (c : Int) {p : Nat} (hp : p ≤ X.length) : ∃ k : Nat, pivK X c p = k ∧ p ≤ k ∧ k ≤ X.length ∧ (∀ z : Nat, p ≤ z → z < k → ix 0 (ix [] X z) c = 0) ∧ (k < X.length → ix 0 (ix [] X k) c ≠ 0) := by
 have ex : ∀ (d p : Nat), p + d = X.length → ∃ k : Nat, p ≤ k ∧ k ≤ X.length ∧ (∀ z : Nat, p ≤ z → z < k → ix 0 (ix [] X z) c = 0) ∧ (k < X.length → ix 0 (ix [] X k) c ≠ 0) := by
  intro d
  induction d with
  | zero => intro p hp; exact ⟨p, Nat.le_refl _, by omega, fun z h1 h2 => by omega, fun h => by omega⟩
  | succ d ih =>
   intro p hp
   by_cases h0 : ix 0 (ix [] X p) c = 0
   ·obtain ⟨k, k1, k2, k3, k4⟩ := ih (p + 1) (by omega)
    refine ⟨k, by omega, k2, fun z h1 h2 => ?_, k4⟩
    by_cases e : z = p
    ·rw [e]; exact h0
    ·exact k3 z (by omega) h2
   ·exact ⟨p, Nat.le_refl _, by omega, fun z h1 h2 => by omega, fun _ => h0⟩
 obtain ⟨k, k1, k2, k3, k4⟩ := ex (X.length - p) p (by omega)
 refine ⟨k, pivK_eq (by omega) (by omega) (by omega) (fun z h1 h2 => ?_) ?_, k1, k2, k3, k4⟩
 ·have := k3 z.toNat (by omega) (by omega)
  rwa [show ((z.toNat : Nat) : Int) = z by omega] at this
 ·by_cases e : k = X.length
  ·left; omega
  ·right; exact k4 (by omega)
theorem col_cases (f : Fld) (c : Int) (s : El) (hr : s.piv.length ≤ s.X.length) : (col f c s = s ∧ ∀ z : Nat, s.piv.length ≤ z → z < s.X.length → ix 0 (ix [] s.X z) c = 0) ∨
  ∃ k : Nat, s.piv.length ≤ k ∧ k < s.X.length ∧ ix 0 (ix [] s.X k) c ≠ 0 ∧ col f c s = colK f c s k := by
 unfold col
 by_cases h1 : s.piv.length < s.X.length
 ·rw [if_pos h1]
  obtain ⟨k, e, k1, k2, k3, k4⟩ := pivK_spec s.X c hr
  rw [e]
  by_cases h2 : k < s.X.length
  ·rw [if_pos (by omega)]
   exact .inr ⟨k, k1, h2, k4 h2, rfl⟩
  ·rw [if_neg (by omega)]
   exact .inl ⟨rfl, fun z z1 z2 => k3 z z1 (by omega)⟩
 ·rw [if_neg h1]
  exact .inl ⟨rfl, fun z z1 z2 => by omega⟩
section
variable {f : Fld} (h : FOk f)
theorem elim_ind {w wy : Nat} {X Y : List (List Int)} (hX : good f w X) (hY : wide wy Y) (hXY : Y = [] ∨ Y.length = X.length) {Φ : (Nat → Nat → KF f h) → (Nat → Nat → KF f h) → Prop}
  (hΦ : ∀ A C A' C', (∀ i j, i < X.length → A i j = A' i j) → (∀ i j, i < X.length → C i j = C' i j) → Φ A C → Φ A' C')
  (hstep : ∀ A C r k c, r ≤ k → k < X.length → A k c ≠ 0 → Φ A C → Φ (La.colA A A r k c) (La.colA A C r k c)) (h0 : Φ (km h X) (km h Y)) : ∀ n : Nat, Φ (km h (elim f X Y n).X) (km h (elim f X Y n).Y)
 | 0 => h0
 | n + 1 => by
  have ih := elim_ind hX hY hXY hΦ hstep h0 n
  have hl := length_elim f X Y n
  have hg := good_elim h.1 (Y := Y) hX n
  have hw := wide_elim (f := f) (X := X) hY hXY n
  have hp := piv_le f X Y n
  show Φ (km h (col f n (elim f X Y n)).X) (km h (col f n (elim f X Y n)).Y)
  rcases col_cases f n (elim f X Y n) (by omega) with ⟨e, _⟩ | ⟨k, k1, k2, k3, e⟩
  ·rw [e]; exact ih
  ·rw [e]
   have hr := good_ixlt h.1 hg (i := (k : Int)) (by omega) (by omega) n
   have hne : km h (elim f X Y n).X k n ≠ 0 := by
    rw [km_ix]
    exact fun e0 => k3 ((ke_eq_zero h hr.1 hr.2).1 e0)
   have hXY2 : (elim f X Y n).Y = [] ∨ (elim f X Y n).Y.length = (elim f X Y n).X.length := by
    rcases hXY with e | e
    ·left; apply List.eq_nil_of_length_eq_zero; rw [hl.2, e]; rfl
    ·right; omega
   obtain ⟨q1, q2⟩ := km_colK h hg hw hXY2 (k := k) (c := n) (by omega) k2 hne
   refine hΦ _ _ _ _ (fun i j hi => (q1 i j (by omega)).symm) (fun i j hi => (q2 i j (by omega)).symm) ?_
   exact hstep _ _ _ _ _ k1 (by omega) hne ih
def pvN (l : List Int) (i : Nat) : Nat := (l.getD i 0).toNat
theorem elim_rref {w : Nat} {X Y : List (List Int)} (hX : good f w X) {wy : Nat} (hY : wide wy Y) (hXY : Y = [] ∨ Y.length = X.length) : ∀ n : Nat, La.Rref (km h (elim f X Y n).X) X.length n (pvN (elim f X Y n).piv) (elim f X Y n).piv.length
 | 0 => La.Rref.zero _ _ _
 | n + 1 => by
  have ih := elim_rref hX hY hXY n
  have hl := length_elim f X Y n
  have hg := good_elim h.1 (Y := Y) hX n
  have hw := wide_elim (f := f) (X := X) hY hXY n
  have hp := piv_le f X Y n
  show La.Rref (km h (col f n (elim f X Y n)).X) X.length (n + 1) (pvN (col f n (elim f X Y n)).piv) (col f n (elim f X Y n)).piv.length
  rcases col_cases f n (elim f X Y n) (by omega) with ⟨e, hz⟩ | ⟨k, k1, k2, k3, e⟩
  ·rw [e]
   refine ih.skip fun j h1 h2 => ?_
   rw [km_ix, hz j h1 (by omega), ke_zero]
  ·rw [e]
   have hr := good_ixlt h.1 hg (i := (k : Int)) (by omega) (by omega) n
   have hne : km h (elim f X Y n).X k n ≠ 0 := by
    rw [km_ix]
    exact fun e0 => k3 ((ke_eq_zero h hr.1 hr.2).1 e0)
   have hXY2 : (elim f X Y n).Y = [] ∨ (elim f X Y n).Y.length = (elim f X Y n).X.length := by
    rcases hXY with e | e
    ·left; apply List.eq_nil_of_length_eq_zero; rw [hl.2, e]; rfl
    ·right; omega
   obtain ⟨q1, q2⟩ := km_colK h hg hw hXY2 (k := k) (c := n) (by omega) k2 hne
   have epiv : (colK f n (elim f X Y n) k).piv = (elim f X Y n).piv ++ [(n : Int)] := rfl
   rw [epiv, List.length_append]
   refine ih.step (p' := pvN ((elim f X Y n).piv ++ [(n : Int)])) k1 (by omega) hne ?_ (fun i hi => ?_) (fun i j hi => q1 i j (by omega))
   ·simp [pvN, List.getD]
   ·simp only [pvN, List.getD]; rw [List.getElem?_append_left hi]
theorem colA_span {K : Type} [Fi K] (A C : Nat → Nat → K) {m r k c : Nat} (hr : r ≤ k) (hk : k < m) (hne : A k c ≠ 0) : (∀ i, i < m → La.Span C m (La.colA A C r k c i)) ∧ (∀ i, i < m → La.Span (La.colA A C r k c) m (C i)) := by
 have hP : La.Span C m (fun j => Fi.inv (A k c) * C k j) := (La.Span.mem hk).smul _
 refine ⟨fun i hi => ?_, fun i hi => ?_⟩
 ·by_cases e : i = r
  ·refine hP.congr fun j => ?_
   rw [e, La.colA_p]
  ·have hB : La.Span C m (fun j => if i = k then C r j else C i j) := by
    by_cases e2 : i = k
    ·exact (La.Span.mem (i := r) (by omega)).congr fun j => by rw [if_pos e2]
    ·exact (La.Span.mem hi).congr fun j => by rw [if_neg e2]
   refine (hB.add (hP.smul (-(if i = k then A r c else A i c)))).congr fun j => ?_
   unfold La.colA
   rw [if_neg e]
 ·have hrm : r < m := by omega
  have hk' : La.Span (La.colA A C r k c) m (C k) := ((La.Span.mem hrm).smul (A k c)).congr fun j => by
   rw [La.colA_p, ← Fi.mul_assoc, Fi.mul_inv hne, Fi.one_mul]
  by_cases e : i = k
  ·rw [e]; exact hk'
  ·by_cases e2 : i = r
   ·subst e2
    have hki : k ≠ i := Ne.symm e
    refine ((La.Span.mem hk).add ((La.Span.mem (i := i) hi).smul (A i c))).congr fun j => ?_
    rw [La.colA_p]
    unfold La.colA
    rw [if_neg hki, if_pos rfl, if_pos rfl, Fi.add_assoc, ← Fi.add_mul, Fi.neg_add, Fi.zero_mul, Fi.add_zero]
   ·refine ((La.Span.mem hi).add ((La.Span.mem (i := r) hrm).smul (A i c))).congr fun j => ?_
    rw [La.colA_p]
    unfold La.colA
    rw [if_neg e2, if_neg e, if_neg e, Fi.add_assoc, ← Fi.add_mul, Fi.neg_add, Fi.zero_mul, Fi.add_zero]
end
end Go.Cw
set_option linter.unusedVariables false
set_option linter.unusedSimpArgs false
set_option linter.unusedSectionVars false
namespace Go.Cw
section
variable {f : Fld} (h : FOk f)
open La Ps
noncomputable def pS (l : List Int) : Ps (KF f h) := ⟨fun n => ke h (ix 0 l n)⟩
theorem co_pS (l : List Int) (n : Nat) : (pS h l).co n = ke h (ix 0 l n) := rfl
def CnL (f : Fld) (l : List Int) : Prop := ¬ outF f l ∧ trimL l = l
theorem ix_out (l : List Int) {n : Nat} (hn : l.length ≤ n) : ix 0 l n = 0 := by
 unfold ix; simp only [List.getD]; rw [List.getElem?_eq_none (by omega)]; rfl
theorem pS_low (l : List Int) : Low (pS h l) l.length := fun i hi => by
 rw [co_pS, ix_out l hi, ke_zero]
theorem pS_pol (l : List Int) : Pol (pS h l) := ⟨_, pS_low h l⟩
theorem pS_congr {l l' : List Int} (e : ∀ n : Nat, ke h (ix 0 l n) = ke h (ix 0 l' n)) : pS h l = pS h l' := Ps.ext (funext e)
theorem ix_trimL (l : List Int) (n : Nat) : ix 0 (trimL l) n = ix 0 l n := by
 by_cases hn : n < trimN l
 ·unfold trimL
  have := ix_take l (k := trimN l) (i := n) (by omega) (by omega)
  rwa [Int.toNat_natCast] at this
 ·rw [ix_out (trimL l) (by rw [length_trimL]; omega)]
  exact (trimN_after l n (by omega)).symm
theorem pS_trim (l : List Int) : pS h (trimL l) = pS h l := pS_congr h fun n => by rw [ix_trimL]
theorem pS_inF (l : List Int) : pS h (l.map (inF f)) = pS h l := pS_congr h fun n => by
 by_cases hn : n < l.length
 ·rw [ix_map_inF f l (by omega) (by omega), ke_in]
 ·rw [ix_out (l.map (inF f)) (by rw [List.length_map]; omega), ix_out l (by omega)]
theorem trimN_trim : ∀ l : List Int, trimN (trimL l) = trimN l := fun l => by
 have h1 := trimN_le (trimL l)
 rw [length_trimL] at h1
 by_cases h0 : trimN l = 0
 ·omega
 ·have hl := trimN_last l (by omega)
  refine Nat.le_antisymm h1 (Classical.byContradiction fun hn => ?_)
  have := trimN_after (trimL l) (trimN l - 1) (by omega)
  have e := ix_trimL l (trimN l - 1)
  unfold ix at e
  rw [Int.toNat_natCast] at e
  rw [e] at this
  exact hl this
theorem trimL_trim (l : List Int) : trimL (trimL l) = trimL l := by
 have e := trimN_trim l
 show List.take (trimN (trimL l)) (trimL l) = _
 rw [e]
 exact List.take_of_length_le (by rw [length_trimL]; omega)
theorem outF_map (hS : Shape f) (l : List Int) : ¬ outF f (l.map (inF f)) := by
 rintro ⟨x, hx, hb⟩
 obtain ⟨y, _, rfl⟩ := List.mem_map.1 hx
 exact hb (inF_lt hS y)
theorem outF_take {l : List Int} (n : Nat) (hl : ¬ outF f l) : ¬ outF f (l.take n) := fun ⟨x, hx, hb⟩ => hl ⟨x, List.mem_of_mem_take hx, hb⟩
theorem cn_trim {l : List Int} (hl : ¬ outF f l) : CnL f (trimL l) := ⟨outF_take _ hl, trimL_trim l⟩
theorem cn_canon (hS : Shape f) (l : List Int) : CnL f (trimL (l.map (inF f))) := cn_trim (outF_map hS l)
theorem cn_nil : CnL f [] := ⟨fun ⟨x, hx, _⟩ => by simp at hx, rfl⟩
theorem cn_len {l : List Int} (hc : CnL f l) : trimN l = l.length := by rw [← length_trimL, hc.2]
theorem cn_top {l : List Int} (hc : CnL f l) (hl : 0 < l.length) : Top (pS h l) (l.length - 1) := by
 have hn := cn_len hc
 refine ⟨?_, (pS_low h l).mono (by omega)⟩
 rw [co_pS]
 have h1 := trimN_last l (by omega)
 rw [hn] at h1
 have h2 := ix_ok h.1 hc.1 ((l.length - 1 : Nat) : Int)
 intro e
 rw [ke_eq_zero h h2.1 h2.2] at e
 unfold ix at e
 rw [Int.toNat_natCast] at e
 exact h1 e
theorem cn_len_eq {a b : List Int} (ha : CnL f a) (hb : CnL f b) (e : pS h a = pS h b) : a.length ≤ b.length := by
 refine Classical.byContradiction fun hn => ?_
 have h1 := cn_top h ha (by omega)
 rw [e] at h1
 exact h1.1 (pS_low h b _ (by omega))
theorem cn_inj {a b : List Int} (ha : CnL f a) (hb : CnL f b) (e : pS h a = pS h b) : a = b := by
 have h1 := cn_len_eq h ha hb e
 have h2 := cn_len_eq h hb ha e.symm
 refine ext_ix 0 (by omega) fun j h0 h3 => ?_
 have e2 := congrArg (fun p => Ps.co p j.toNat) e
 simp only [co_pS] at e2
 rw [show ((j.toNat : Nat) : Int) = j by omega] at e2
 have r1 := ix_ok h.1 ha.1 j
 have r2 := ix_ok h.1 hb.1 j
 exact ke_inj h r1.1 r1.2 r2.1 r2.2 e2
theorem ke_ex (x : KF f h) : ∃ c : Int, 0 ≤ c ∧ c < f.q ∧ ke h c = x := by
 have hl := Rg.Kt.code_lt x
 have hc := h.1.card
 unfold Rg.card at hc
 have hq : x.code < f.q := by omega
 refine ⟨x.code, hl.1, hq, ?_⟩
 apply Rg.Kt.ext
 show Shape.e f x.code = x.v
 unfold Shape.e
 rw [inF_id hl.1 hq]
 exact congrArg Rg.Kt.v (Rg.Kt.of_code x)
theorem cn_ex {a : Ps (KF f h)} (ha : Pol a) : ∃ l, CnL f l ∧ pS h l = a := by
 obtain ⟨n, hn⟩ := ha
 have hcx : ∀ i : Int, ∃ c : Int, (0 ≤ c ∧ c < f.q) ∧ ke h c = a.co i.toNat := fun i => by
  obtain ⟨c, h0, h1, h2⟩ := ke_ex h (a.co i.toNat); exact ⟨c, ⟨h0, h1⟩, h2⟩
 let g : Int → Int := fun i => Classical.choose (hcx i)
 have hg : ∀ i, (0 ≤ g i ∧ g i < f.q) ∧ ke h (g i) = a.co i.toNat := fun i => Classical.choose_spec (hcx i)
 refine ⟨trimL (mapR g n), cn_trim (outF_mapR fun i _ _ => (hg i).1), ?_⟩
 rw [pS_trim]
 apply Ps.ext; funext i
 rw [co_pS]
 by_cases hi : i < n
 ·rw [ix_mapR 0 g (by omega) (by omega), (hg i).2, Int.toNat_natCast]
 ·rw [ix_out _ (by rw [length_mapR]; omega), ke_zero, hn i (by omega)]
open Classical in
noncomputable def lS (a : Ps (KF f h)) : List Int := if g : ∃ l, CnL f l ∧ pS h l = a then Classical.choose g else []
theorem lS_cn (a : Ps (KF f h)) : CnL f (lS h a) := by
 unfold lS
 split
 ·rename_i g; exact (Classical.choose_spec g).1
 ·exact cn_nil
theorem pS_lS {a : Ps (KF f h)} (ha : Pol a) : pS h (lS h a) = a := by
 unfold lS
 rw [dif_pos (cn_ex h ha)]
 exact (Classical.choose_spec (cn_ex h ha)).2
theorem lS_eq {l : List Int} {a : Ps (KF f h)} (hc : CnL f l) (e : pS h l = a) : l = lS h a :=
 cn_inj h hc (lS_cn h a) (by rw [pS_lS h (e ▸ pS_pol h l), e])
theorem lS_pS {l : List Int} (hc : CnL f l) : lS h (pS h l) = l := (lS_eq h hc rfl).symm
theorem lS_canon (l : List Int) : trimL (l.map (inF f)) = lS h (pS h l) := lS_eq h (cn_canon h.1 l) (by rw [pS_trim, pS_inF])
theorem lS_trim {l : List Int} (hl : ¬ outF f l) : trimL l = lS h (pS h l) := lS_eq h (cn_trim hl) (pS_trim h l)
theorem pS_nil : pS h [] = 0 := Ps.ext (funext fun n => by rw [co_pS, ix_out [] (by simp), ke_zero]; rfl)
theorem lS_zero : lS h 0 = [] := (lS_eq h cn_nil (pS_nil h)).symm
theorem pS_one : pS h [1] = 1 := Ps.ext (funext fun n => by
 rw [co_pS, co_one]
 split
 ·rename_i e; rw [e]; exact ke_one h
 ·rw [ix_out [1] (by simp; omega), ke_zero])
theorem cn_one (hS : Shape f) : CnL f [1] := by
 have := hS.bd
 refine ⟨fun ⟨x, hx, hb⟩ => hb ?_, rfl⟩
 have : x = 1 := by simpa using hx
 omega
theorem lS_one : lS h 1 = [1] := (lS_eq h (cn_one h.1) (pS_one h)).symm
theorem lS_len {a : Ps (KF f h)} {n : Nat} (ha : Low a n) : (lS h a).length ≤ n := by
 refine Classical.byContradiction fun hn => ?_
 have h1 := cn_top h (lS_cn h a) (by omega)
 rw [pS_lS h ⟨n, ha⟩] at h1
 exact h1.1 (ha _ (by omega))
theorem lS_nil {a : Ps (KF f h)} (ha : Pol a) : lS h a = [] ↔ a = 0 := by
 constructor
 ·intro e; rw [← pS_lS h ha, e, pS_nil]
 ·intro e; rw [e, lS_zero]
theorem lS_top {a : Ps (KF f h)} {n : Nat} (ha : Top a n) : (lS h a).length = n + 1 := by
 have hp : Pol a := ⟨_, ha.2⟩
 have hl : (lS h a).length ≠ 0 := fun e => ha.ne ((lS_nil h hp).1 (List.eq_nil_of_length_eq_zero e))
 have h1 := cn_top h (lS_cn h a) (by omega)
 rw [pS_lS h hp] at h1
 have := h1.uniq ha
 omega
theorem pS_low' (l : List Int) (n : Nat) (hn : l.length ≤ n) : Low (pS h l) n := (pS_low h l).mono hn
theorem ixn_set (l : List Int) {k : Int} (h0 : 0 ≤ k) (h1 : k < l.length) (v : Int) (n : Nat) : ix 0 (l.set k.toNat v) n = if (n : Int) = k then v else ix 0 l n := by
 unfold ix
 simp only [List.getD, List.getElem?_set, Int.toNat_natCast]
 by_cases e : (n : Int) = k
 ·rw [if_pos e, if_pos (by omega), if_pos (by omega)]; rfl
 ·rw [if_neg e, if_neg (by omega)]
theorem pS_set (l : List Int) {k : Int} (h0 : 0 ≤ k) (h1 : k < l.length) (v : Int) {x : KF f h} (hv : ke h v = ke h (ix 0 l k) + x) : pS h (l.set k.toNat v) = pS h l + con x * xp k.toNat := by
 apply Ps.ext; funext n
 rw [co_pS, ixn_set l h0 h1, co_add, con_mul, co_pS, co_xp]
 by_cases e : (n : Int) = k
 ·rw [if_pos e, if_pos (by omega), hv, Fi.mul_one, e]
 ·rw [if_neg e, if_neg (by omega), Fi.mul_zero, Fi.add_zero]
noncomputable def tk (a : Ps (KF f h)) (n : Nat) : Ps (KF f h) := ⟨fun i => if i < n then a.co i else 0⟩
theorem tk_zero (a : Ps (KF f h)) : tk h a 0 = 0 := Ps.ext (funext fun i => by show (if i < 0 then a.co i else 0) = 0; rw [if_neg (by omega)])
theorem tk_all {a : Ps (KF f h)} {n : Nat} (ha : Low a n) : tk h a n = a := Ps.ext (funext fun i => by
 show (if i < n then a.co i else 0) = a.co i
 split
 ·rfl
 ·exact (ha i (by omega)).symm)
theorem tk_succ (a : Ps (KF f h)) (n : Nat) : tk h a (n + 1) = tk h a n + con (a.co n) * xp n := by
 apply Ps.ext; funext i
 rw [co_add, con_mul, co_xp]
 show (if i < n + 1 then a.co i else 0) = (if i < n then a.co i else 0) + _
 by_cases e : i = n
 ·rw [if_pos (by omega), if_neg (by omega), if_pos e, Fi.mul_one, Fi.zero_add, e]
 ·by_cases e2 : i < n
  ·rw [if_pos (by omega), if_pos e2, if_neg e, Fi.mul_zero, Fi.add_zero]
  ·rw [if_neg (by omega), if_neg e2, if_neg e, Fi.mul_zero, Fi.add_zero]
theorem xp_xp (k m : Nat) : (xp k : Ps (KF f h)) * xp m = xp (k + m) := by
 apply Ps.ext; funext n
 rw [xp_mul, co_xp, co_xp]
 by_cases e : k ≤ n
 ·rw [if_pos e]
  by_cases e2 : n = k + m
  ·rw [if_pos e2, if_pos (by omega)]
  ·rw [if_neg e2, if_neg (by omega)]
 ·rw [if_neg e, if_neg (by omega)]
noncomputable def prT (p q : List Int) (i j : Int) : Ps (KF f h) := tk h (pS h p) i.toNat * pS h q + con (ke h (ix 0 p i)) * xp i.toNat * tk h (pS h q) j.toNat
theorem prT_zero (p q : List Int) : prT h p q 0 0 = 0 := by
 unfold prT
 rw [show (0 : Int).toNat = 0 from rfl, tk_zero, tk_zero, Ri.zero_mul, Ri.mul_zero, Ri.add_zero]
theorem prT_row (p q : List Int) {i j : Int} (i0 : 0 ≤ i) (hj : q.length ≤ j) : prT h p q i j = prT h p q (i + 1) 0 := by
 unfold prT
 rw [tk_all h (pS_low' h q _ (by omega)), show (0 : Int).toNat = 0 from rfl, tk_zero, Ri.mul_zero, Ri.add_zero, show (i + 1).toNat = i.toNat + 1 by omega, tk_succ, Ri.add_mul, co_pS, show ((i.toNat : Nat) : Int) = i by omega]
theorem prT_all (p q : List Int) {i : Int} (hi : p.length ≤ i) : prT h p q i 0 = pS h p * pS h q := by
 unfold prT
 rw [tk_all h (pS_low' h p _ (by omega)), show (0 : Int).toNat = 0 from rfl, tk_zero, Ri.mul_zero, Ri.add_zero]
theorem prT_step (p q : List Int) {l : List Int} {i j v : Int} (i0 : 0 ≤ i) (j0 : 0 ≤ j) (hij : i + j < l.length) (hl : pS h l = prT h p q i j) (hv : v = addF f (ix 0 l (i + j)) (mulF f (ix 0 p i) (ix 0 q j))) :
  pS h (l.set (i + j).toNat v) = prT h p q i (j + 1) := by
 rw [pS_set h l (by omega) hij v (x := ke h (ix 0 p i) * ke h (ix 0 q j)) (by rw [hv, ke_add, ke_mul]), hl]
 unfold prT
 rw [Ri.add_assoc]
 congr 1
 rw [show (j + 1).toNat = j.toNat + 1 by omega, tk_succ, Ri.mul_add, co_pS, show ((j.toNat : Nat) : Int) = j by omega]
 congr 1
 rw [show (i + j).toNat = i.toNat + j.toNat by omega, ← xp_xp h, ← con_con]
 ac_rfl
theorem outF_set {l : List Int} (hl : ¬ outF f l) {v : Int} (hv : 0 ≤ v ∧ v < f.q) (k : Nat) : ¬ outF f (l.set k v) := fun ⟨x, hx, hb⟩ => by
 rcases List.mem_or_eq_of_mem_set hx with h1 | h1
 ·exact hl ⟨x, h1, hb⟩
 ·rw [h1] at hb; exact hb hv
theorem outF_repl (hS : Shape f) (n : Nat) : ¬ outF f (List.replicate n 0) := fun ⟨x, hx, hb⟩ => by
 have := hS.bd
 rw [List.eq_of_mem_replicate hx] at hb; omega
theorem pS_repl (n : Nat) : pS h (List.replicate n 0) = 0 := Ps.ext (funext fun i => by rw [co_pS, ix_replicate0, ke_zero]; rfl)
theorem cn_mul {p q l : List Int} (hp : CnL f p) (hq : CnL f q) (p0 : 0 < p.length) (q0 : 0 < q.length) (hl : ¬ outF f l) (e : pS h l = pS h p * pS h q) (hn : l.length = p.length + q.length - 1) : CnL f l := by
 refine ⟨hl, ?_⟩
 have ht := (cn_top h hp p0).mul (cn_top h hq q0)
 rw [← e, ← pS_trim] at ht
 have h1 := lS_top h ht
 rw [lS_pS h (cn_trim hl), length_trimL] at h1
 have := trimN_le l
 unfold trimL
 exact List.take_of_length_le (by omega)
theorem pS_map_mul (a : Int) (l : List Int) : pS h (l.map (mulF f a)) = con (ke h a) * pS h l := by
 apply Ps.ext; funext n
 rw [co_pS, con_mul, co_pS]
 by_cases hn : n < l.length
 ·have : ix 0 (l.map (mulF f a)) n = mulF f a (ix 0 l n) := by simp [ix, List.getD, hn]
  rw [this, ke_mul]
 ·rw [ix_out _ (by rw [List.length_map]; omega), ix_out l (by omega), ke_zero, Fi.mul_zero]
theorem outF_map_mul (hS : Shape f) (a : Int) (l : List Int) : ¬ outF f (l.map (mulF f a)) := by
 rintro ⟨x, hx, hb⟩
 obtain ⟨y, _, rfl⟩ := List.mem_map.1 hx
 exact hb (hS.mulF_lt _ _)
end
end Go.Cw
set_option linter.unusedVariables false
set_option linter.unusedSimpArgs false
set_option linter.unusedSectionVars false
namespace Go.Cw
namespace Ps
open La
variable {K : Type} [Fi K]
theorem Low.cut {a : Ps K} {n : Nat} (h : Low a (n + 1)) (hz : a.co n = 0) : Low a n := fun i hi => by
 by_cases e : i = n
 ·rw [e, hz]
 ·exact h i (by omega)
theorem low_xp {b : Ps K} {m : Nat} (hb : Low b m) (x : K) (k : Nat) : Low (con x * xp k * b) (k + m) := fun i hi => by
 rw [Ri.mul_assoc, con_mul, xp_mul, if_pos (by omega), hb _ (by omega), Fi.mul_zero]
theorem co_xp_top {b : Ps K} (x : K) (k m : Nat) : (con x * xp k * b).co (k + m) = x * b.co m := by
 rw [Ri.mul_assoc, con_mul, xp_mul, if_pos (by omega), show k + m - k = m by omega]
theorem con_pol (x : K) : Pol (con x) := ⟨1, con_low x⟩
theorem xp_pol (k : Nat) : Pol (xp k : Ps K) := ⟨_, xp_low k⟩
theorem div_ex {b : Ps K} {m : Nat} (hb : Top b m) : ∀ (n : Nat) (a : Ps K), Low a n → ∃ q r, Pol q ∧ Low r m ∧ a = q * b + r
 | 0, a, ha => ⟨0, a, Pol.zero, ha.mono (by omega), by rw [Ri.zero_mul, Ri.zero_add]⟩
 | n + 1, a, ha => by
  by_cases hn : n + 1 ≤ m
  ·exact ⟨0, a, Pol.zero, ha.mono hn, by rw [Ri.zero_mul, Ri.zero_add]⟩
  ·have hx : a.co n * Fi.inv (b.co m) * b.co m = a.co n := by rw [Fi.mul_assoc, Fi.inv_mul _ hb.1, Fi.mul_one]
   generalize hX : a.co n * Fi.inv (b.co m) = x at hx
   have hl : Low (a + -(con x * xp (n - m) * b)) n := by
    refine Low.cut ?_ ?_
    ·refine ha.add (Low.neg ?_)
     have := low_xp hb.2 x (n - m)
     exact this.mono (by omega)
    ·have := co_xp_top (b := b) x (n - m) m
     rw [show n - m + m = n by omega] at this
     rw [co_add, co_neg, this, hx, Fi.add_neg]
   obtain ⟨q, r, hq, hr, e⟩ := div_ex hb n _ hl
   refine ⟨con x * xp (n - m) + q, r, (Pol.mul (con_pol x) (xp_pol _)).add hq, hr, ?_⟩
   rw [Ri.add_mul, Ri.add_assoc, ← e, Ri.add_comm a, Ri.add_neg_cancel_left]
theorem div_uniq {b : Ps K} {m : Nat} (hb : Top b m) {q r q' r' : Ps K} (hq : Pol q) (hq' : Pol q') (hr : Low r m) (hr' : Low r' m) (e : q * b + r = q' * b + r') : q = q' ∧ r = r' := by
 have hqe : q = q' := by
  refine Classical.byContradiction fun hne => ?_
  have hd : q + -q' ≠ 0 := fun h => hne (Ri.eq_of_sub h)
  obtain ⟨n, hn⟩ := (hq.add hq'.neg).top hd
  have ht := hn.mul hb
  have e2 : (q + -q') * b = r' + -r := by
   have e3 : q * b + r + -r + -(q' * b) = q' * b + r' + -r + -(q' * b) := by rw [e]
   rw [Ri.add_assoc (q * b), Ri.add_neg, Ri.add_zero] at e3
   rw [Ri.add_mul, Ri.neg_mul, e3, Ri.add_assoc, Ri.add_assoc, Ri.add_comm (q' * b), Ri.add_assoc, Ri.add_assoc, Ri.neg_add, Ri.add_zero]
  rw [e2] at ht
  exact ht.1 ((hr'.add hr.neg) _ (by omega))
 refine ⟨hqe, ?_⟩
 rw [hqe] at e
 exact Ri.add_left_cancel e
open Classical in
noncomputable def dq (a b : Ps K) : Ps K := if g : ∃ q r, Pol q ∧ (∀ m, Top b m → Low r m) ∧ a = q * b + r then Classical.choose g else 0
noncomputable def dm (a b : Ps K) : Ps K := a + -(dq a b * b)
theorem dq_spec {a b : Ps K} {m : Nat} (ha : Pol a) (hb : Top b m) : Pol (dq a b) ∧ Low (dm a b) m ∧ a = dq a b * b + dm a b := by
 obtain ⟨n, hn⟩ := ha
 obtain ⟨q, r, hq, hr, e⟩ := div_ex hb n a hn
 have hg : ∃ q r, Pol q ∧ (∀ m, Top b m → Low r m) ∧ a = q * b + r := ⟨q, r, hq, fun m' hm => by rw [← hb.uniq hm]; exact hr, e⟩
 have hs := Classical.choose_spec hg
 have hd : dq a b = Classical.choose hg := by unfold dq; rw [dif_pos hg]
 rw [← hd] at hs
 obtain ⟨r2, h1, h2, h3⟩ := hs
 have e4 : dm a b = r2 := by
  have e5 : a + -(dq a b * b) = dq a b * b + r2 + -(dq a b * b) := congrArg (· + -(dq a b * b)) h3
  unfold dm
  rw [e5, Ri.add_comm (dq a b * b), Ri.add_assoc, Ri.add_neg, Ri.add_zero]
 exact ⟨h1, by rw [e4]; exact h2 m hb, by rw [e4]; exact h3⟩
theorem dq_eq {a b q r : Ps K} {m : Nat} (hb : Top b m) (hq : Pol q) (hr : Low r m) (e : a = q * b + r) : q = dq a b ∧ r = dm a b := by
 have ha : Pol a := by rw [e]; exact (hq.mul ⟨_, hb.2⟩).add ⟨_, hr⟩
 obtain ⟨h1, h2, h3⟩ := dq_spec ha hb
 exact div_uniq hb hq h1 hr h2 (e ▸ h3)
theorem dm_pol {a b : Ps K} (ha : Pol a) (hb : Pol b) (hne : b ≠ 0) : Pol (dm a b) := by
 obtain ⟨m, hm⟩ := hb.top hne
 exact ⟨m, (dq_spec ha hm).2.1⟩
theorem dq_pol {a b : Ps K} (ha : Pol a) (hb : Pol b) (hne : b ≠ 0) : Pol (dq a b) := by
 obtain ⟨m, hm⟩ := hb.top hne
 exact (dq_spec ha hm).1
theorem dq_low {a b : Ps K} {n m : Nat} (ha : Low a n) (hb : Top b m) : Low (dq a b) (n - m) := by
 obtain ⟨h1, h2, h3⟩ := dq_spec ⟨n, ha⟩ hb
 by_cases hz : dq a b = 0
 ·rw [hz]; exact Low.zero _
 ·obtain ⟨s, hs⟩ := h1.top hz
  have ht := hs.mul hb
  refine hs.2.mono (Classical.byContradiction fun hn => ?_)
  have : a.co (s + m) = 0 := ha _ (by omega)
  rw [h3, co_add, h2 (s + m) (by omega), Fi.add_zero] at this
  exact ht.1 this
open Classical in
noncomputable def mon (a : Ps K) : Ps K := if g : ∃ n, Top a n then con (Fi.inv (a.co (Classical.choose g))) * a else 0
theorem mon_top {a : Ps K} {n : Nat} (h : Top a n) : mon a = con (Fi.inv (a.co n)) * a := by
 have hg : ∃ n, Top a n := ⟨n, h⟩
 unfold mon
 rw [dif_pos hg, (Classical.choose_spec hg).uniq h]
theorem mon_zero : mon (0 : Ps K) = 0 := by
 unfold mon
 rw [dif_neg]
 rintro ⟨n, hn⟩; exact hn.ne rfl
theorem mon_mon {a : Ps K} (ha : Pol a) : Mon (mon a) := by
 by_cases hz : a = 0
 ·rw [hz, mon_zero]; exact .inl rfl
 ·obtain ⟨n, hn⟩ := ha.top hz
  rw [mon_top hn]
  refine .inr ⟨n, ?_, ?_⟩
  ·rw [con_mul, Fi.inv_mul _ hn.1]
  ·have := (con_low (Fi.inv (a.co n))).mul hn.2
   exact this.mono (by omega)
theorem mon_pol {a : Ps K} (ha : Pol a) : Pol (mon a) := by
 by_cases hz : a = 0
 ·rw [hz, mon_zero]; exact Pol.zero
 ·obtain ⟨n, hn⟩ := ha.top hz
  rw [mon_top hn]; exact (con_pol _).mul ha
theorem dv_con {x : K} (hx : x ≠ 0) {e a : Ps K} : Dv e (con x * a) ↔ Dv e a := by
 constructor
 ·intro h
  have := h.mul (con_pol (Fi.inv x))
  rwa [← Ri.mul_assoc, con_con, Fi.inv_mul _ hx, con_one, Ri.one_mul] at this
 ·exact fun h => h.mul (con_pol x)
theorem dv_mon {e a : Ps K} (ha : Pol a) : Dv e (mon a) ↔ Dv e a := by
 by_cases hz : a = 0
 ·rw [hz, mon_zero]
 ·obtain ⟨n, hn⟩ := ha.top hz
  rw [mon_top hn]; exact dv_con (Fi.inv_ne hn.1)
def IsG (d a b : Ps K) : Prop := Pol d ∧ Mon d ∧ ∀ e, Pol e → (Dv e d ↔ Dv e a ∧ Dv e b)
theorem IsG.uniq {d d' a b : Ps K} (h : IsG d a b) (h' : IsG d' a b) : d = d' :=
 h.2.1.uniq h'.2.1 ((h'.2.2 d h.1).2 ((h.2.2 d h.1).1 (Dv.refl d))) ((h.2.2 d' h'.1).2 ((h'.2.2 d' h'.1).1 (Dv.refl d')))
open Classical in
noncomputable def gc (a b : Ps K) : Ps K := if g : ∃ d, IsG d a b then Classical.choose g else 0
theorem gc_eq {d a b : Ps K} (h : IsG d a b) : gc a b = d := by
 have hg : ∃ d, IsG d a b := ⟨d, h⟩
 unfold gc
 rw [dif_pos hg]
 exact (Classical.choose_spec hg).uniq h
theorem dv_step {a b e : Ps K} {m : Nat} (ha : Pol a) (hb : Top b m) : (Dv e a ∧ Dv e b) ↔ (Dv e b ∧ Dv e (dm a b)) := by
 obtain ⟨h1, h2, h3⟩ := dq_spec ha hb
 constructor
 ·rintro ⟨x, y⟩
  exact ⟨y, x.add (y.mul h1).neg⟩
 ·rintro ⟨x, y⟩
  refine ⟨?_, x⟩
  have := (x.mul h1).add y
  rwa [← h3] at this
theorem gc_end {a b p : Ps K} (hp : Pol p) (h : ∀ e, Pol e → ((Dv e p ∧ Dv e 0) ↔ (Dv e a ∧ Dv e b))) : gc a b = mon p := by
 refine gc_eq ⟨mon_pol hp, mon_mon hp, fun e he => ?_⟩
 rw [dv_mon hp, ← h e he]
 exact ⟨fun x => ⟨x, Dv.zero e⟩, fun x => x.1⟩
theorem gc_ex : ∀ (n : Nat) {a b : Ps K}, Pol a → Low b n → ∃ d, IsG d a b
 | 0, a, b, ha, hb => by
  have hz : b = 0 := Ps.ext (funext fun i => hb i (by omega))
  refine ⟨mon a, mon_pol ha, mon_mon ha, fun e he => ?_⟩
  rw [dv_mon ha, hz]
  exact ⟨fun x => ⟨x, Dv.zero e⟩, fun x => x.1⟩
 | n + 1, a, b, ha, hb => by
  by_cases hz : b = 0
  ·exact gc_ex n ha (by rw [hz]; exact Low.zero n)
  ·obtain ⟨m, hm, ht⟩ := hb.top hz
   obtain ⟨d, h1, h2, h3⟩ := gc_ex n (a := b) (b := dm a b) ⟨_, hb⟩ ((dq_spec ha ht).2.1.mono (by omega))
   exact ⟨d, h1, h2, fun e he => by rw [h3 e he]; exact (dv_step ha ht).symm⟩
theorem gc_spec {a b : Ps K} (ha : Pol a) (hb : Pol b) : IsG (gc a b) a b := by
 obtain ⟨n, hn⟩ := hb
 obtain ⟨d, hd⟩ := gc_ex n ha hn
 rw [gc_eq hd]; exact hd
end Ps
end Go.Cw
