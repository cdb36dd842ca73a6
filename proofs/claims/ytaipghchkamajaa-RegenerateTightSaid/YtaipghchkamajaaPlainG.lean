/-
  The information flow graph as lists.
-/
import Derived.Test.YtaipghchkamajaaPlainL
set_option linter.unusedVariables false
set_option linter.unusedSimpArgs false
set_option linter.unusedSectionVars false
namespace Go.Cw
/-! ### The information flow graph, as lists -/
def badIn (n but : Int) (l : List Int) : Prop := ∃ x ∈ l, (x < 0 ∨ n ≤ x) ∨ x = but
instance (n but : Int) (l : List Int) : Decidable (badIn n but l) := by unfold badIn; infer_instance
def lstErr (n but : Int) (l : List Int) : Int := if badIn n but l then 6 else if l.Nodup then 0 else 18
theorem badIn_take {n but : Int} {l : List Int} {k : Nat} (h : badIn n but (l.take k)) : badIn n but l := by
  obtain ⟨x, h1, h2⟩ := h
  exact ⟨x, List.mem_of_mem_take h1, h2⟩
theorem badIn_at {n but : Int} {l : List Int} {i : Int} (h0 : 0 ≤ i) (h1 : i < l.length) (h : (ix 0 l i < 0 ∨ n ≤ ix 0 l i) ∨ ix 0 l i = but) : badIn n but l := ⟨_, ix_mem 0 l h0 h1, h⟩
theorem badIn_succ {n but : Int} {l : List Int} {i : Int} (h0 : 0 ≤ i) (h1 : i < l.length) (h : ¬ badIn n but (l.take i.toNat)) (h2 : ¬ ((ix 0 l i < 0 ∨ n ≤ ix 0 l i) ∨ ix 0 l i = but)) : ¬ badIn n but (l.take (i + 1).toNat) := by
  rw [take_succ_ix 0 l h0 h1]
  rintro ⟨x, hx, hb⟩
  rcases List.mem_append.1 hx with hx | hx
  · exact h ⟨x, hx, hb⟩
  · rw [List.mem_singleton] at hx; rw [hx] at hb; exact h2 hb
theorem lstErr_zero {n but : Int} {l : List Int} : lstErr n but l = 0 ↔ ¬ badIn n but l ∧ l.Nodup := by
  unfold lstErr
  split
  · simp_all
  · split <;> simp_all
theorem lstErr_len {n but : Int} {l : List Int} (h : lstErr n but l = 0) (hn : n ≤ 64) : l.length ≤ 64 := by
  obtain ⟨h1, h2⟩ := lstErr_zero.1 h
  refine nodup_lt_length 64 l h2 fun x hx => ?_
  by_cases hb : (x < 0 ∨ n ≤ x) ∨ x = but
  · exact absurd ⟨x, hx, hb⟩ h1
  · omega
theorem lstErr_mem {n but : Int} {l : List Int} (h : lstErr n but l = 0) {i : Int} (h0 : 0 ≤ i) (h1 : i < l.length) : 0 ≤ ix 0 l i ∧ ix 0 l i < n := by
  obtain ⟨h2, _⟩ := lstErr_zero.1 h
  by_cases hb : (ix 0 l i < 0 ∨ n ≤ ix 0 l i) ∨ ix 0 l i = but
  · exact absurd (badIn_at h0 h1 hb) h2
  · omega
abbrev Fl := Int × List Int
abbrev Arc3 := Int × Int × Int
def flErr (n : Int) (f : Fl) : Int := if f.1 < 0 ∨ n ≤ f.1 then 6 else lstErr n f.1 f.2
def hErr (n : Int) : List Fl → Int
  | [] => 0
  | f :: r => if flErr n f = 0 then hErr n r else flErr n f
theorem hErr_append (n : Int) : ∀ l r : List Fl, hErr n l = 0 → hErr n (l ++ r) = hErr n r
  | [], r, _ => rfl
  | f :: l, r, h => by
    simp only [List.cons_append, hErr] at h ⊢
    split at h
    · rename_i h1; rw [if_pos h1]; exact hErr_append n l r h
    · rename_i h1; exact absurd h h1
theorem hErr_at {n : Int} {h : List Fl} {i : Int} (h0 : 0 ≤ i) (h1 : i < h.length) (hp : hErr n (h.take i.toNat) = 0) (he : flErr n (ix (0, []) h i) ≠ 0) : hErr n h = flErr n (ix (0, []) h i) := by
  have hi : i.toNat < h.length := by omega
  conv => lhs; rw [← List.take_append_drop i.toNat h, List.drop_eq_getElem_cons hi]
  rw [hErr_append _ _ _ hp]
  have : ix (0, []) h i = h[i.toNat] := by simp [ix, List.getD, hi]
  rw [this] at he ⊢
  simp only [hErr, if_neg he]
theorem hErr_succ {n : Int} {h : List Fl} {i : Int} (h0 : 0 ≤ i) (h1 : i < h.length) (hp : hErr n (h.take i.toNat) = 0) (he : flErr n (ix (0, []) h i) = 0) : hErr n (h.take (i + 1).toNat) = 0 := by
  rw [take_succ_ix (0, []) h h0 h1, hErr_append _ _ _ hp]
  simp only [hErr, if_pos he]
theorem hErr_elem {n : Int} : ∀ {h : List Fl}, hErr n h = 0 → ∀ f ∈ h, flErr n f = 0
  | [], _, f, hf => by cases hf
  | g :: r, h, f, hf => by
    simp only [hErr] at h
    split at h
    · rename_i h1
      rcases List.mem_cons.1 hf with h2 | h2
      · rw [h2]; exact h1
      · exact hErr_elem h f h2
    · rename_i h1; exact absurd h h1
theorem flErr_zero {n : Int} {f : Fl} (h : flErr n f = 0) : 0 ≤ f.1 ∧ f.1 < n ∧ lstErr n f.1 f.2 = 0 := by
  unfold flErr at h
  split at h
  · cases h
  · refine ⟨by omega, by omega, h⟩
/-- The number of helpers. -/
def hArcs (l : List Fl) : Int := (l.map fun f => (f.2.length : Int)).sum
theorem hArcs_succ {h : List Fl} {i : Int} (h0 : 0 ≤ i) (h1 : i < h.length) : hArcs (h.take (i + 1).toNat) = hArcs (h.take i.toNat) + ((ix (0, []) h i).2.length : Int) := by
  unfold hArcs
  rw [take_succ_ix (0, []) h h0 h1, List.map_append, List.sum_append]
  simp
theorem hArcs_le {n : Int} (hn : n ≤ 64) : ∀ {l : List Fl}, hErr n l = 0 → 0 ≤ hArcs l ∧ hArcs l ≤ 64 * l.length
  | [], _ => by simp [hArcs]
  | f :: r, h => by
    have h1 := flErr_zero (hErr_elem h f (by simp))
    have h2 := lstErr_len h1.2.2 hn
    have h3 : hErr n r = 0 := by
      simp only [hErr] at h
      split at h
      · exact h
      · rename_i h4; exact absurd h h4
    have h4 := hArcs_le hn h3
    simp only [hArcs, List.map_cons, List.sum_cons, List.length_cons] at h4 ⊢
    omega
def rngBad (n a b : Int) : Prop := (((((n < 1 ∨ 64 < n) ∨ a < 0) ∨ 1048576 < a) ∨ b < 0) ∨ 1048576 < b)
instance (n a b : Int) : Decidable (rngBad n a b) := by unfold rngBad; infer_instance
def tooBig (n : Int) (h : List Fl) (c : List Int) : Prop := 256 < 2 * (n + (h.length : Int)) + 2 ∨ 1024 < 2 * n + (h.length : Int) + (c.length : Int) + hArcs h
instance (n : Int) (h : List Fl) (c : List Int) : Decidable (tooBig n h c) := by unfold tooBig; infer_instance
def gErr (n a b : Int) (h : List Fl) (c : List Int) : Int :=
  if rngBad n a b then 6 else if hErr n h = 0 then (if lstErr n (-1) c = 0 then (if tooBig n h c then 8 else 0) else lstErr n (-1) c) else hErr n h
/-- The versions that are current before the failure i. -/
def lastN (n : Int) (h : List Fl) : Nat → List Int
  | 0 => mapR id n
  | i + 1 => (lastN n h i).set (h.getD i (0, [])).1.toNat (n + i)
@[simp] theorem length_lastN (n : Int) (h : List Fl) (i : Nat) : (lastN n h i).length = n.toNat := by
  induction i with
  | zero => exact length_mapR _ _
  | succ i ih => simp [lastN, ih]
theorem lastN_succ (n : Int) (h : List Fl) {i : Int} (h0 : 0 ≤ i) : lastN n h (i + 1).toNat = (lastN n h i.toNat).set (ix (0, []) h i).1.toNat (n + i) := by
  rw [show (i + 1).toNat = i.toNat + 1 by omega]
  simp only [lastN]
  rw [show ((i.toNat : Nat) : Int) = i by omega]; rfl
theorem lastN_bound (n : Int) (h : List Fl) (i : Nat) : ∀ x ∈ lastN n h i, 0 ≤ x ∧ x < n + i := by
  induction i with
  | zero =>
    intro x hx
    obtain ⟨j, hj, rfl⟩ := List.mem_map.1 hx
    rw [List.mem_range] at hj
    simp only [id]; omega
  | succ i ih =>
    intro x hx
    rcases List.mem_or_eq_of_mem_set hx with h1 | h1
    · have := ih x h1; omega
    · have : (lastN n h i).length = n.toNat := length_lastN n h i
      by_cases hn : n.toNat = 0
      · have h2 : lastN n h i = [] := List.eq_nil_of_length_eq_zero (by omega)
        simp [lastN, h2] at hx
      · omega
theorem ix_lastN {n : Int} {h : List Fl} {i k : Int} (h0 : 0 ≤ k) (h1 : k < n) (hi : 0 ≤ i) : 0 ≤ ix 0 (lastN n h i.toNat) k ∧ ix 0 (lastN n h i.toNat) k < n + i := by
  have := lastN_bound n h i.toNat _ (ix_mem 0 (lastN n h i.toNat) (i := k) h0 (by rw [length_lastN]; omega))
  omega
def arcA (v : Int) : Arc3 := (0, 2 * v + 1, 1099511627776)
def arcB (a v : Int) : Arc3 := (2 * v + 1, 2 * v + 2, a)
def arcC (n b : Int) (last : List Int) (i x : Int) : Arc3 := (2 * ix 0 last x + 2, 2 * (n + i) + 1, b)
def arcD (n L : Int) (last : List Int) (x : Int) : Arc3 := (2 * ix 0 last x + 2, 2 * (n + L) + 1, 1099511627776)
def histArcs (n b : Int) (h : List Fl) : Nat → List Arc3
  | 0 => []
  | i + 1 => histArcs n b h i ++ (h.getD i (0, [])).2.map (arcC n b (lastN n h i) i)
theorem histArcs_succ (n b : Int) (h : List Fl) {i : Int} (h0 : 0 ≤ i) : histArcs n b h (i + 1).toNat = histArcs n b h i.toNat ++ (ix (0, []) h i).2.map (arcC n b (lastN n h i.toNat) i) := by
  rw [show (i + 1).toNat = i.toNat + 1 by omega]
  simp only [histArcs]
  rw [show ((i.toNat : Nat) : Int) = i by omega]; rfl
theorem length_histArcs (n b : Int) (h : List Fl) (i : Nat) (hi : i ≤ h.length) : ((histArcs n b h i).length : Int) = hArcs (h.take i) := by
  induction i with
  | zero => simp [histArcs, hArcs]
  | succ i ih =>
    have := hArcs_succ (h := h) (i := (i : Int)) (by omega) (by omega)
    rw [show ((i : Int) + 1).toNat = i + 1 by omega, show ((i : Int)).toNat = i by omega] at this
    rw [this, ← ih (by omega)]
    simp [histArcs, ix]
def gHead (n a : Int) (h : List Fl) : List Arc3 := mapR arcA n ++ mapR (arcB a) (n + h.length)
def gArcs (n a b : Int) (h : List Fl) (c : List Int) : List Arc3 :=
  gHead n a h ++ histArcs n b h h.length ++ c.map (arcD n h.length (lastN n h h.length))
theorem take_hArcs_le (h : List Fl) (i : Nat) : hArcs (h.take i) ≤ hArcs h := by
  have : hArcs h = hArcs (h.take i) + hArcs (h.drop i) := by
    unfold hArcs; rw [← List.sum_append, ← List.map_append, List.take_append_drop]
  have h2 : 0 ≤ hArcs (h.drop i) := by
    unfold hArcs
    generalize h.drop i = l
    induction l with
    | nil => simp
    | cons f r ih => simp only [List.map_cons, List.sum_cons]; omega
  omega
theorem length_gHead (n a : Int) (h : List Fl) : (gHead n a h).length = n.toNat + (n + h.length).toNat := by simp [gHead]
theorem take_arcs_lt {n : Int} {h : List Fl} {c : List Int} (hb : ¬ tooBig n h c) (hn : 1 ≤ n) (i : Nat) (hi : i ≤ h.length) (a b : Int) : ((gHead n a h ++ histArcs n b h i).length : Int) + (c.length : Int) ≤ 1024 := by
  have h1 := length_histArcs n b h i hi
  have h2 := take_hArcs_le h i
  have h3 := length_gHead n a h
  unfold tooBig at hb
  rw [List.length_append]
  omega
theorem take_arcs_lt2 {n : Int} {h : List Fl} {c : List Int} (hb : ¬ tooBig n h c) (hn : 1 ≤ n) {i : Int} (h0 : 0 ≤ i) (hi : i < h.length) (a b : Int) : ((gHead n a h ++ histArcs n b h i.toNat).length : Int) + ((ix (0, []) h i).2.length : Int) ≤ 1024 := by
  have h1 := take_arcs_lt hb hn (i + 1).toNat (by omega) a b
  rw [histArcs_succ n b h h0] at h1
  simp only [List.length_append, List.length_map] at h1 ⊢
  omega
/-- What a right call knows. -/
structure GOk (n a b : Int) (h : List Fl) (c : List Int) : Prop where
  rng : ¬ rngBad n a b
  hist : hErr n h = 0
  coll : lstErr n (-1) c = 0
  big : ¬ tooBig n h c
theorem gErr_zero {n a b : Int} {h : List Fl} {c : List Int} : gErr n a b h c = 0 ↔ GOk n a b h c := by
  unfold gErr
  constructor
  · intro he
    split at he
    · cases he
    · rename_i h1
      split at he
      · rename_i h2
        split at he
        · rename_i h3
          split at he
          · cases he
          · rename_i h4; exact ⟨h1, h2, h3, h4⟩
        · rename_i h3; exact absurd he h3
      · rename_i h2; exact absurd he h2
  · intro ⟨h1, h2, h3, h4⟩
    rw [if_neg h1, if_pos h2, if_pos h3, if_neg h4]
def netV (n a b : Int) (h : List Fl) (c : List Int) : Int := if gErr n a b h c = 0 then 2 * (n + h.length) + 2 else 0
def netA (n a b : Int) (h : List Fl) (c : List Int) : List Arc3 := if gErr n a b h c = 0 then gArcs n a b h c else []
theorem arc_eq {x y : Arc3} : [x.1, x.2.1, x.2.2] = [y.1, y.2.1, y.2.2] ↔ x = y := by
  obtain ⟨a, b, c⟩ := x
  obtain ⟨d, e, f⟩ := y
  simp
theorem list_ext_ix {α : Type} (d : α) {l r : List α} (hl : l.length = r.length) (h : ∀ i : Int, 0 ≤ i → i < l.length → ix d l i = ix d r i) : l = r := by
  apply List.ext_getElem hl
  intro i h1 h2
  have := h (i : Int) (by omega) (by omega)
  simpa [ix, List.getD, h1, h2] using this
def sameNet (v : Int) (l : List Arc3) (v' : Int) (l' : List Arc3) : Prop := v = v' ∧ l = l'
instance (v : Int) (l : List Arc3) (v' : Int) (l' : List Arc3) : Decidable (sameNet v l v' l') := by unfold sameNet; infer_instance
end Go.Cw
