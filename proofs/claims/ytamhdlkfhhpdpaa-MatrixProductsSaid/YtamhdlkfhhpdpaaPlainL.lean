/-
  Lists by integer indexes.
-/
import Derived.Test.YtamhdlkfhhpdpaaCxLib
set_option linter.unusedVariables false
set_option linter.unusedSimpArgs false
set_option linter.unusedSectionVars false
namespace Go.Cw
def mapR {α : Type} (f : Int → α) (v : Int) : List α := (List.range v.toNat).map fun (i : Nat) => f (i : Int)
theorem mapR_zero {α : Type} (f : Int → α) : mapR f 0 = [] := rfl
theorem mapR_succ {α : Type} (f : Int → α) {v : Int} (h : 0 ≤ v) : mapR f (v + 1) = mapR f v ++ [f v] := by
  unfold mapR
  rw [show (v + 1).toNat = v.toNat + 1 by omega, List.range_succ, List.map_append]
  simp only [List.map_cons, List.map_nil]
  rw [show ((v.toNat : Nat) : Int) = v by omega]
@[simp] theorem length_mapR {α : Type} (f : Int → α) (v : Int) : (mapR f v).length = v.toNat := by simp [mapR]
theorem mapR_congr {α : Type} {f g : Int → α} {v : Int} (h : ∀ i, 0 ≤ i → i < v → f i = g i) : mapR f v = mapR g v := by
  unfold mapR
  apply List.map_congr_left
  intro i hi
  rw [List.mem_range] at hi
  exact h i (by omega) (by omega)
theorem ix_mapR {α : Type} (d : α) (f : Int → α) {v i : Int} (h0 : 0 ≤ i) (h1 : i < v) : ix d (mapR f v) i = f i := by
  unfold mapR
  have : i.toNat < v.toNat := by omega
  simp [ix, List.getD, this, show ((i.toNat : Nat) : Int) = i by omega]
def mapT {α β : Type} (f : α → β) (l : List α) (i : Int) : List β := (l.take i.toNat).map f
theorem mapT_zero {α β : Type} (f : α → β) (l : List α) : mapT f l 0 = [] := by simp [mapT]
theorem take_succ_ix {α : Type} (d : α) (l : List α) {i : Int} (h0 : 0 ≤ i) (h1 : i < l.length) : l.take (i + 1).toNat = l.take i.toNat ++ [ix d l i] := by
  have hi : i.toNat < l.length := by omega
  rw [show (i + 1).toNat = i.toNat + 1 by omega, List.take_add_one]
  simp [ix, List.getD, hi]
theorem mapT_succ {α β : Type} (d : α) (f : α → β) (l : List α) {i : Int} (h0 : 0 ≤ i) (h1 : i < l.length) : mapT f l (i + 1) = mapT f l i ++ [f (ix d l i)] := by
  unfold mapT
  rw [take_succ_ix d l h0 h1, List.map_append]; rfl
theorem length_mapT {α β : Type} (f : α → β) (l : List α) {i : Int} (h1 : i ≤ l.length) : (mapT f l i).length = i.toNat := by simp [mapT]; omega
theorem mapT_all {α β : Type} (f : α → β) (l : List α) {i : Int} (h1 : l.length ≤ i) : mapT f l i = l.map f := by
  unfold mapT
  rw [List.take_of_length_le (by omega)]
theorem ix_mem {α : Type} (d : α) (l : List α) {i : Int} (h0 : 0 ≤ i) (h1 : i < l.length) : ix d l i ∈ l := by
  have : i.toNat < l.length := by omega
  simp [ix, List.getD, this]
/-- The first index of x, or -1. -/
def ixOf (l : List Int) (x : Int) : Int := if x ∈ l then (l.idxOf x : Int) else -1
theorem ixOf_at (l : List Int) (x : Int) {i : Int} (h0 : 0 ≤ i) (h1 : i < l.length) (hx : ix 0 l i = x) (hn : x ∉ l.take i.toNat) : ixOf l x = i := by
  have hi : i.toNat < l.length := by omega
  have hm : x ∈ l := by rw [← hx]; exact ix_mem 0 l h0 h1
  unfold ixOf
  rw [if_pos hm]
  have hs : l = l.take i.toNat ++ (x :: l.drop (i.toNat + 1)) := by
    conv => lhs; rw [← List.take_append_drop i.toNat l, List.drop_eq_getElem_cons hi]
    simp only [ix, List.getD, List.getElem?_eq_getElem hi, Option.getD_some] at hx
    rw [hx]
  have : l.idxOf x = i.toNat := by
    rw [hs, List.idxOf_append, if_neg hn]
    simp; omega
  omega
theorem ixOf_none (l : List Int) (x : Int) (h : x ∉ l) : ixOf l x = -1 := by unfold ixOf; rw [if_neg h]
theorem ixOf_pos (l : List Int) (x : Int) : 0 ≤ ixOf l x ↔ x ∈ l := by
  unfold ixOf
  split <;> simp_all
theorem nodup_take_succ (l : List Int) {i : Int} (h0 : 0 ≤ i) (h1 : i < l.length) : (l.take (i + 1).toNat).Nodup ↔ (l.take i.toNat).Nodup ∧ ix 0 l i ∉ l.take i.toNat := by
  rw [take_succ_ix 0 l h0 h1, List.nodup_append]
  simp
  grind
theorem nodup_lt_length : ∀ (n : Nat) (l : List Int), l.Nodup → (∀ x ∈ l, 0 ≤ x ∧ x < n) → l.length ≤ n := by
  intro n
  induction n with
  | zero =>
    intro l _ h
    cases l with
    | nil => simp
    | cons x r => have := h x (by simp); omega
  | succ n ih =>
    intro l hn h
    by_cases hm : (n : Int) ∈ l
    · have h1 := ih (l.erase (n : Int)) (hn.erase _) (fun x hx => by
        have h2 := h x (List.mem_of_mem_erase hx)
        have h3 : x ≠ (n : Int) := fun he => by subst he; exact (List.Nodup.not_mem_erase hn) hx
        omega)
      rw [List.length_erase_of_mem hm] at h1
      omega
    · have := ih l hn (fun x hx => by
        have h2 := h x hx
        have h3 : x ≠ (n : Int) := fun he => hm (he ▸ hx)
        omega)
      omega
theorem mapR_set {α : Type} (f : Int → α) {v i : Int} (h0 : 0 ≤ i) (a : α) : (mapR f v).set i.toNat a = mapR (fun c => if c = i then a else f c) v := by
  apply List.ext_getElem (by simp)
  intro j h1 h2
  rw [List.getElem_set]
  simp only [mapR, List.getElem_map, List.getElem_range]
  by_cases hj : i.toNat = j
  · rw [if_pos hj, if_pos (by omega)]
  · rw [if_neg hj, if_neg (by omega)]
theorem mapR_const {α : Type} (a : α) (v : Int) : mapR (fun _ => a) v = List.replicate v.toNat a := by
  apply List.ext_getElem (by simp)
  intro j h1 h2
  simp [mapR]
end Go.Cw

