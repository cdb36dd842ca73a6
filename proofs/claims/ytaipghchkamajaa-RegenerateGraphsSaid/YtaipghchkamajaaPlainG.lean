/-
  Lists by integer indexes; the information flow graph as lists.
-/
import Derived.Test.YtaipghchkamajaaCx
set_option linter.unusedVariables false
set_option linter.unusedSimpArgs false
namespace Go.Cw
/-! ### Lists, by integer indexes -/
def mapR {α : Type} (f : Int → α) (v : Int) : List α := (List.range v.toNat).map fun (i : Nat) => f (i : Int)
theorem mapR_zero {α : Type} (f : Int → α) : mapR f 0 = [] := rfl
theorem mapR_succ {α : Type} (f : Int → α) {v : Int} (h : 0 ≤ v) : mapR f (v + 1) = mapR f v ++ [f v] := by
  unfold mapR
  rw [show (v + 1).toNat = v.toNat + 1 by omega, List.range_succ, List.map_append]
  simp only [List.map_cons, List.map_nil]
  rw [show ((v.toNat : Nat) : Int) = v by omega]
@[simp] theorem length_mapR {α : Type} (f : Int → α) (v : Int) : (mapR f v).length = v.toNat := by simp [mapR]
theorem mapR_congr {α : Type} {f g : Int → α} {v : Int} (h : ∀ i, 0 ≤ i → i < v → f i = g i) : mapR f v = mapR g v := by
  unfold mapR
  apply List.map_congr_left
  intro i hi
  rw [List.mem_range] at hi
  exact h i (by omega) (by omega)
theorem ix_mapR {α : Type} (d : α) (f : Int → α) {v i : Int} (h0 : 0 ≤ i) (h1 : i < v) : ix d (mapR f v) i = f i := by
  unfold mapR
  have : i.toNat < v.toNat := by omega
  simp [ix, List.getD, this, show ((i.toNat : Nat) : Int) = i by omega]
def mapT {α β : Type} (f : α → β) (l : List α) (i : Int) : List β := (l.take i.toNat).map f
theorem mapT_zero {α β : Type} (f : α → β) (l : List α) : mapT f l 0 = [] := by simp [mapT]
theorem take_succ_ix {α : Type} (d : α) (l : List α) {i : Int} (h0 : 0 ≤ i) (h1 : i < l.length) : l.take (i + 1).toNat = l.take i.toNat ++ [ix d l i] := by
  have hi : i.toNat < l.length := by omega
  rw [show (i + 1).toNat = i.toNat + 1 by omega, List.take_add_one]
  simp [ix, List.getD, hi]
theorem mapT_succ {α β : Type} (d : α) (f : α → β) (l : List α) {i : Int} (h0 : 0 ≤ i) (h1 : i < l.length) : mapT f l (i + 1) = mapT f l i ++ [f (ix d l i)] := by
  unfold mapT
  rw [take_succ_ix d l h0 h1, List.map_append]; rfl
theorem length_mapT {α β : Type} (f : α → β) (l : List α) {i : Int} (h1 : i ≤ l.length) : (mapT f l i).length = i.toNat := by simp [mapT]; omega
theorem mapT_all {α β : Type} (f : α → β) (l : List α) {i : Int} (h1 : l.length ≤ i) : mapT f l i = l.map f := by
  unfold mapT
  rw [List.take_of_length_le (by omega)]
theorem mem_take_getD {α : Type} (d : α) (l : List α) (n : Nat) (x : α) (h : x ∈ l.take n) : ∃ j : Nat, j < n ∧ j < l.length ∧ ix d l (j : Int) = x := by
  obtain ⟨j, hj⟩ := List.mem_iff_getElem?.1 h
  rw [List.getElem?_take] at hj
  split at hj
  · rename_i hjn
    obtain ⟨h1, h2⟩ := List.getElem?_eq_some_iff.1 hj
    exact ⟨j, hjn, h1, by simp [ix, List.getD, h1, h2]⟩
  · cases hj
theorem getD_mem_take {α : Type} (d : α) (l : List α) (n j : Nat) (h1 : j < n) (h2 : j < l.length) : l.getD j d ∈ l.take n := by
  apply List.mem_iff_getElem?.2
  exact ⟨j, by rw [List.getElem?_take, if_pos h1]; simp [ix, List.getD, h2]⟩
theorem ix_mem {α : Type} (d : α) (l : List α) {i : Int} (h0 : 0 ≤ i) (h1 : i < l.length) : ix d l i ∈ l := by
  have : i.toNat < l.length := by omega
  simp [ix, List.getD, this]
/-- The first index of x, or -1. -/
def ixOf (l : List Int) (x : Int) : Int := if x ∈ l then (l.idxOf x : Int) else -1
theorem ixOf_at (l : List Int) (x : Int) {i : Int} (h0 : 0 ≤ i) (h1 : i < l.length) (hx : ix 0 l i = x) (hn : x ∉ l.take i.toNat) : ixOf l x = i := by
  have hi : i.toNat < l.length := by omega
  have hm : x ∈ l := by rw [← hx]; exact ix_mem 0 l h0 h1
  unfold ixOf
  rw [if_pos hm]
  have hs : l = l.take i.toNat ++ (x :: l.drop (i.toNat + 1)) := by
    conv => lhs; rw [← List.take_append_drop i.toNat l, List.drop_eq_getElem_cons hi]
    simp only [ix, List.getD, List.getElem?_eq_getElem hi, Option.getD_some] at hx
    rw [hx]
  have : l.idxOf x = i.toNat := by
    rw [hs, List.idxOf_append, if_neg hn]
    simp; omega
  omega
theorem ixOf_none (l : List Int) (x : Int) (h : x ∉ l) : ixOf l x = -1 := by unfold ixOf; rw [if_neg h]
theorem ixOf_pos (l : List Int) (x : Int) : 0 ≤ ixOf l x ↔ x ∈ l := by
  unfold ixOf
  split <;> simp_all
theorem nodup_take_succ (l : List Int) {i : Int} (h0 : 0 ≤ i) (h1 : i < l.length) : (l.take (i + 1).toNat).Nodup ↔ (l.take i.toNat).Nodup ∧ ix 0 l i ∉ l.take i.toNat := by
  rw [take_succ_ix 0 l h0 h1, List.nodup_append]
  simp
  grind
theorem nodup_of_take {l : List Int} {n : Nat} (h : ¬ (l.take n).Nodup) : ¬ l.Nodup := fun h2 => h (h2.sublist (List.take_sublist _ _))
theorem nodup_lt_length : ∀ (n : Nat) (l : List Int), l.Nodup → (∀ x ∈ l, 0 ≤ x ∧ x < n) → l.length ≤ n := by
  intro n
  induction n with
  | zero =>
    intro l _ h
    cases l with
    | nil => simp
    | cons x r => have := h x (by simp); omega
  | succ n ih =>
    intro l hn h
    by_cases hm : (n : Int) ∈ l
    · have h1 := ih (l.erase (n : Int)) (hn.erase _) (fun x hx => by
        have h2 := h x (List.mem_of_mem_erase hx)
        have h3 : x ≠ (n : Int) := fun he => by subst he; exact (List.Nodup.not_mem_erase hn) hx
        omega)
      rw [List.length_erase_of_mem hm] at h1
      omega
    · have := ih l hn (fun x hx => by
        have h2 := h x hx
        have h3 : x ≠ (n : Int) := fun he => hm (he ▸ hx)
        omega)
      omega
/-- A list that is filled from the left. -/
def fillR {α : Type} (f : Int → α) (d : α) (n v : Int) : List α := mapR f v ++ List.replicate (n - v).toNat d
theorem fillR_zero {α : Type} (f : Int → α) (d : α) (n : Int) : fillR f d n 0 = List.replicate n.toNat d := by simp [fillR, mapR_zero]
theorem fillR_all {α : Type} (f : Int → α) (d : α) {n v : Int} (h : n ≤ v) : fillR f d n v = mapR f v := by
  unfold fillR; rw [show (n - v).toNat = 0 by omega]; simp
theorem length_fillR {α : Type} (f : Int → α) (d : α) {n v : Int} (h0 : 0 ≤ v) (h1 : v ≤ n) : (fillR f d n v).length = n.toNat := by simp [fillR]; omega
theorem fillR_set {α : Type} (f : Int → α) (d : α) {n v : Int} (h0 : 0 ≤ v) (h1 : v < n) : (fillR f d n v).set v.toNat (f v) = fillR f d n (v + 1) := by
  unfold fillR
  rw [mapR_succ f h0, show (n - v).toNat = (n - (v + 1)).toNat + 1 by omega, List.replicate_succ]
  have hl : (mapR f v).length = v.toNat := length_mapR f v
  rw [List.set_append_right _ _ (by omega), hl, Nat.sub_self, List.set_cons_zero, List.append_assoc]; rfl
end Go.Cw
namespace Go.Cw
/-! ### The information flow graph, as lists -/
def badIn (n but : Int) (l : List Int) : Prop := ∃ x ∈ l, (x < 0 ∨ n ≤ x) ∨ x = but
instance (n but : Int) (l : List Int) : Decidable (badIn n but l) := by unfold badIn; infer_instance
def lstErr (n but : Int) (l : List Int) : Int := if badIn n but l then 6 else if l.Nodup then 0 else 18
theorem badIn_take {n but : Int} {l : List Int} {k : Nat} (h : badIn n but (l.take k)) : badIn n but l := by
  obtain ⟨x, h1, h2⟩ := h
  exact ⟨x, List.mem_of_mem_take h1, h2⟩
theorem badIn_at {n but : Int} {l : List Int} {i : Int} (h0 : 0 ≤ i) (h1 : i < l.length) (h : (ix 0 l i < 0 ∨ n ≤ ix 0 l i) ∨ ix 0 l i = but) : badIn n but l := ⟨_, ix_mem 0 l h0 h1, h⟩
theorem badIn_succ {n but : Int} {l : List Int} {i : Int} (h0 : 0 ≤ i) (h1 : i < l.length) (h : ¬ badIn n but (l.take i.toNat)) (h2 : ¬ ((ix 0 l i < 0 ∨ n ≤ ix 0 l i) ∨ ix 0 l i = but)) : ¬ badIn n but (l.take (i + 1).toNat) := by
  rw [take_succ_ix 0 l h0 h1]
  rintro ⟨x, hx, hb⟩
  rcases List.mem_append.1 hx with hx | hx
  · exact h ⟨x, hx, hb⟩
  · rw [List.mem_singleton] at hx; rw [hx] at hb; exact h2 hb
theorem lstErr_zero {n but : Int} {l : List Int} : lstErr n but l = 0 ↔ ¬ badIn n but l ∧ l.Nodup := by
  unfold lstErr
  split
  · simp_all
  · split <;> simp_all
theorem lstErr_len {n but : Int} {l : List Int} (h : lstErr n but l = 0) (hn : n ≤ 64) : l.length ≤ 64 := by
  obtain ⟨h1, h2⟩ := lstErr_zero.1 h
  refine nodup_lt_length 64 l h2 fun x hx => ?_
  by_cases hb : (x < 0 ∨ n ≤ x) ∨ x = but
  · exact absurd ⟨x, hx, hb⟩ h1
  · omega
theorem lstErr_mem {n but : Int} {l : List Int} (h : lstErr n but l = 0) {i : Int} (h0 : 0 ≤ i) (h1 : i < l.length) : 0 ≤ ix 0 l i ∧ ix 0 l i < n := by
  obtain ⟨h2, _⟩ := lstErr_zero.1 h
  by_cases hb : (ix 0 l i < 0 ∨ n ≤ ix 0 l i) ∨ ix 0 l i = but
  · exact absurd (badIn_at h0 h1 hb) h2
  · omega
abbrev Fl := Int × List Int
abbrev Arc3 := Int × Int × Int
def flErr (n : Int) (f : Fl) : Int := if f.1 < 0 ∨ n ≤ f.1 then 6 else lstErr n f.1 f.2
def hErr (n : Int) : List Fl → Int
  | [] => 0
  | f :: r => if flErr n f = 0 then hErr n r else flErr n f
theorem hErr_append (n : Int) : ∀ l r : List Fl, hErr n l = 0 → hErr n (l ++ r) = hErr n r
  | [], r, _ => rfl
  | f :: l, r, h => by
    simp only [List.cons_append, hErr] at h ⊢
    split at h
    · rename_i h1; rw [if_pos h1]; exact hErr_append n l r h
    · rename_i h1; exact absurd h h1
theorem hErr_at {n : Int} {h : List Fl} {i : Int} (h0 : 0 ≤ i) (h1 : i < h.length) (hp : hErr n (h.take i.toNat) = 0) (he : flErr n (ix (0, []) h i) ≠ 0) : hErr n h = flErr n (ix (0, []) h i) := by
  have hi : i.toNat < h.length := by omega
  conv => lhs; rw [← List.take_append_drop i.toNat h, List.drop_eq_getElem_cons hi]
  rw [hErr_append _ _ _ hp]
  have : ix (0, []) h i = h[i.toNat] := by simp [ix, List.getD, hi]
  rw [this] at he ⊢
  simp only [hErr, if_neg he]
theorem hErr_succ {n : Int} {h : List Fl} {i : Int} (h0 : 0 ≤ i) (h1 : i < h.length) (hp : hErr n (h.take i.toNat) = 0) (he : flErr n (ix (0, []) h i) = 0) : hErr n (h.take (i + 1).toNat) = 0 := by
  rw [take_succ_ix (0, []) h h0 h1, hErr_append _ _ _ hp]
  simp only [hErr, if_pos he]
theorem hErr_elem {n : Int} : ∀ {h : List Fl}, hErr n h = 0 → ∀ f ∈ h, flErr n f = 0
  | [], _, f, hf => by cases hf
  | g :: r, h, f, hf => by
    simp only [hErr] at h
    split at h
    · rename_i h1
      rcases List.mem_cons.1 hf with h2 | h2
      · rw [h2]; exact h1
      · exact hErr_elem h f h2
    · rename_i h1; exact absurd h h1
theorem flErr_zero {n : Int} {f : Fl} (h : flErr n f = 0) : 0 ≤ f.1 ∧ f.1 < n ∧ lstErr n f.1 f.2 = 0 := by
  unfold flErr at h
  split at h
  · cases h
  · refine ⟨by omega, by omega, h⟩
/-- The number of helpers. -/
def hArcs (l : List Fl) : Int := (l.map fun f => (f.2.length : Int)).sum
theorem hArcs_succ {h : List Fl} {i : Int} (h0 : 0 ≤ i) (h1 : i < h.length) : hArcs (h.take (i + 1).toNat) = hArcs (h.take i.toNat) + ((ix (0, []) h i).2.length : Int) := by
  unfold hArcs
  rw [take_succ_ix (0, []) h h0 h1, List.map_append, List.sum_append]
  simp
theorem hArcs_le {n : Int} (hn : n ≤ 64) : ∀ {l : List Fl}, hErr n l = 0 → 0 ≤ hArcs l ∧ hArcs l ≤ 64 * l.length
  | [], _ => by simp [hArcs]
  | f :: r, h => by
    have h1 := flErr_zero (hErr_elem h f (by simp))
    have h2 := lstErr_len h1.2.2 hn
    have h3 : hErr n r = 0 := by
      simp only [hErr] at h
      split at h
      · exact h
      · rename_i h4; exact absurd h h4
    have h4 := hArcs_le hn h3
    simp only [hArcs, List.map_cons, List.sum_cons, List.length_cons] at h4 ⊢
    omega
def rngBad (n a b : Int) : Prop := (((((n < 1 ∨ 64 < n) ∨ a < 0) ∨ 1048576 < a) ∨ b < 0) ∨ 1048576 < b)
instance (n a b : Int) : Decidable (rngBad n a b) := by unfold rngBad; infer_instance
def tooBig (n : Int) (h : List Fl) (c : List Int) : Prop := 256 < 2 * (n + (h.length : Int)) + 2 ∨ 1024 < 2 * n + (h.length : Int) + (c.length : Int) + hArcs h
instance (n : Int) (h : List Fl) (c : List Int) : Decidable (tooBig n h c) := by unfold tooBig; infer_instance
def gErr (n a b : Int) (h : List Fl) (c : List Int) : Int :=
  if rngBad n a b then 6 else if hErr n h = 0 then (if lstErr n (-1) c = 0 then (if tooBig n h c then 8 else 0) else lstErr n (-1) c) else hErr n h
/-- The versions that are current before the failure i. -/
def lastN (n : Int) (h : List Fl) : Nat → List Int
  | 0 => mapR id n
  | i + 1 => (lastN n h i).set (h.getD i (0, [])).1.toNat (n + i)
@[simp] theorem length_lastN (n : Int) (h : List Fl) (i : Nat) : (lastN n h i).length = n.toNat := by
  induction i with
  | zero => exact length_mapR _ _
  | succ i ih => simp [lastN, ih]
theorem lastN_succ (n : Int) (h : List Fl) {i : Int} (h0 : 0 ≤ i) : lastN n h (i + 1).toNat = (lastN n h i.toNat).set (ix (0, []) h i).1.toNat (n + i) := by
  rw [show (i + 1).toNat = i.toNat + 1 by omega]
  simp only [lastN]
  rw [show ((i.toNat : Nat) : Int) = i by omega]; rfl
theorem lastN_bound (n : Int) (h : List Fl) (i : Nat) : ∀ x ∈ lastN n h i, 0 ≤ x ∧ x < n + i := by
  induction i with
  | zero =>
    intro x hx
    obtain ⟨j, hj, rfl⟩ := List.mem_map.1 hx
    rw [List.mem_range] at hj
    simp only [id]; omega
  | succ i ih =>
    intro x hx
    rcases List.mem_or_eq_of_mem_set hx with h1 | h1
    · have := ih x h1; omega
    · have : (lastN n h i).length = n.toNat := length_lastN n h i
      by_cases hn : n.toNat = 0
      · have h2 : lastN n h i = [] := List.eq_nil_of_length_eq_zero (by omega)
        simp [lastN, h2] at hx
      · omega
theorem ix_lastN {n : Int} {h : List Fl} {i k : Int} (h0 : 0 ≤ k) (h1 : k < n) (hi : 0 ≤ i) : 0 ≤ ix 0 (lastN n h i.toNat) k ∧ ix 0 (lastN n h i.toNat) k < n + i := by
  have := lastN_bound n h i.toNat _ (ix_mem 0 (lastN n h i.toNat) (i := k) h0 (by rw [length_lastN]; omega))
  omega
def arcA (v : Int) : Arc3 := (0, 2 * v + 1, 1099511627776)
def arcB (a v : Int) : Arc3 := (2 * v + 1, 2 * v + 2, a)
def arcC (n b : Int) (last : List Int) (i x : Int) : Arc3 := (2 * ix 0 last x + 2, 2 * (n + i) + 1, b)
def arcD (n L : Int) (last : List Int) (x : Int) : Arc3 := (2 * ix 0 last x + 2, 2 * (n + L) + 1, 1099511627776)
def histArcs (n b : Int) (h : List Fl) : Nat → List Arc3
  | 0 => []
  | i + 1 => histArcs n b h i ++ (h.getD i (0, [])).2.map (arcC n b (lastN n h i) i)
theorem histArcs_succ (n b : Int) (h : List Fl) {i : Int} (h0 : 0 ≤ i) : histArcs n b h (i + 1).toNat = histArcs n b h i.toNat ++ (ix (0, []) h i).2.map (arcC n b (lastN n h i.toNat) i) := by
  rw [show (i + 1).toNat = i.toNat + 1 by omega]
  simp only [histArcs]
  rw [show ((i.toNat : Nat) : Int) = i by omega]; rfl
theorem length_histArcs (n b : Int) (h : List Fl) (i : Nat) (hi : i ≤ h.length) : ((histArcs n b h i).length : Int) = hArcs (h.take i) := by
  induction i with
  | zero => simp [histArcs, hArcs]
  | succ i ih =>
    have := hArcs_succ (h := h) (i := (i : Int)) (by omega) (by omega)
    rw [show ((i : Int) + 1).toNat = i + 1 by omega, show ((i : Int)).toNat = i by omega] at this
    rw [this, ← ih (by omega)]
    simp [histArcs, ix]
def gHead (n a : Int) (h : List Fl) : List Arc3 := mapR arcA n ++ mapR (arcB a) (n + h.length)
def gArcs (n a b : Int) (h : List Fl) (c : List Int) : List Arc3 :=
  gHead n a h ++ histArcs n b h h.length ++ c.map (arcD n h.length (lastN n h h.length))
theorem take_hArcs_le (h : List Fl) (i : Nat) : hArcs (h.take i) ≤ hArcs h := by
  have : hArcs h = hArcs (h.take i) + hArcs (h.drop i) := by
    unfold hArcs; rw [← List.sum_append, ← List.map_append, List.take_append_drop]
  have h2 : 0 ≤ hArcs (h.drop i) := by
    unfold hArcs
    generalize h.drop i = l
    induction l with
    | nil => simp
    | cons f r ih => simp only [List.map_cons, List.sum_cons]; omega
  omega
theorem length_gHead (n a : Int) (h : List Fl) : (gHead n a h).length = n.toNat + (n + h.length).toNat := by simp [gHead]
theorem take_arcs_lt {n : Int} {h : List Fl} {c : List Int} (hb : ¬ tooBig n h c) (hn : 1 ≤ n) (i : Nat) (hi : i ≤ h.length) (a b : Int) : ((gHead n a h ++ histArcs n b h i).length : Int) + (c.length : Int) ≤ 1024 := by
  have h1 := length_histArcs n b h i hi
  have h2 := take_hArcs_le h i
  have h3 := length_gHead n a h
  unfold tooBig at hb
  rw [List.length_append]
  omega
theorem take_arcs_lt2 {n : Int} {h : List Fl} {c : List Int} (hb : ¬ tooBig n h c) (hn : 1 ≤ n) {i : Int} (h0 : 0 ≤ i) (hi : i < h.length) (a b : Int) : ((gHead n a h ++ histArcs n b h i.toNat).length : Int) + ((ix (0, []) h i).2.length : Int) ≤ 1024 := by
  have h1 := take_arcs_lt hb hn (i + 1).toNat (by omega) a b
  rw [histArcs_succ n b h h0] at h1
  simp only [List.length_append, List.length_map] at h1 ⊢
  omega
/-- What a right call knows. -/
structure GOk (n a b : Int) (h : List Fl) (c : List Int) : Prop where
  rng : ¬ rngBad n a b
  hist : hErr n h = 0
  coll : lstErr n (-1) c = 0
  big : ¬ tooBig n h c
theorem gErr_zero {n a b : Int} {h : List Fl} {c : List Int} : gErr n a b h c = 0 ↔ GOk n a b h c := by
  unfold gErr
  constructor
  · intro he
    split at he
    · cases he
    · rename_i h1
      split at he
      · rename_i h2
        split at he
        · rename_i h3
          split at he
          · cases he
          · rename_i h4; exact ⟨h1, h2, h3, h4⟩
        · rename_i h3; exact absurd he h3
      · rename_i h2; exact absurd he h2
  · intro ⟨h1, h2, h3, h4⟩
    rw [if_neg h1, if_pos h2, if_pos h3, if_neg h4]
def netV (n a b : Int) (h : List Fl) (c : List Int) : Int := if gErr n a b h c = 0 then 2 * (n + h.length) + 2 else 0
def netA (n a b : Int) (h : List Fl) (c : List Int) : List Arc3 := if gErr n a b h c = 0 then gArcs n a b h c else []
theorem arc_eq {x y : Arc3} : [x.1, x.2.1, x.2.2] = [y.1, y.2.1, y.2.2] ↔ x = y := by
  obtain ⟨a, b, c⟩ := x
  obtain ⟨d, e, f⟩ := y
  simp
theorem list_ext_ix {α : Type} (d : α) {l r : List α} (hl : l.length = r.length) (h : ∀ i : Int, 0 ≤ i → i < l.length → ix d l i = ix d r i) : l = r := by
  apply List.ext_getElem hl
  intro i h1 h2
  have := h (i : Int) (by omega) (by omega)
  simpa [ix, List.getD, h1, h2] using this
def sameNet (v : Int) (l : List Arc3) (v' : Int) (l' : List Arc3) : Prop := v = v' ∧ l = l'
instance (v : Int) (l : List Arc3) (v' : Int) (l' : List Arc3) : Decidable (sameNet v l v' l') := by unfold sameNet; infer_instance
end Go.Cw
