/-
  Plain facts.
-/
import Derived.Test.YtbofipdmoocflaaPlainJ1
set_option linter.unusedVariables false
set_option linter.unusedSimpArgs false
set_option linter.unusedSectionVars false
namespace Go.Cw
def filTo {α : Type} (p : Int → Bool) (g : Int → α) : Nat → List α
  | 0 => []
  | k + 1 => if p k = true then filTo p g k ++ [g k] else filTo p g k
theorem filTo_yes {α : Type} {p : Int → Bool} {g : Int → α} {i : Int} (h0 : 0 ≤ i) (h : p i = true) : filTo p g i.toNat ++ [g i] = filTo p g (i + 1).toNat := by
  rw [show (i + 1).toNat = i.toNat + 1 by omega, filTo, show ((i.toNat : Nat) : Int) = i by omega, if_pos h]
theorem filTo_no {α : Type} {p : Int → Bool} {g : Int → α} {i : Int} (h0 : 0 ≤ i) (h : p i = false) : filTo p g i.toNat = filTo p g (i + 1).toNat := by
  rw [show (i + 1).toNat = i.toNat + 1 by omega, filTo, show ((i.toNat : Nat) : Int) = i by omega, if_neg (by rw [h]; decide)]
theorem filTo_congr {α : Type} {p p' : Int → Bool} {g g' : Int → α} : ∀ {k : Nat}, (∀ i : Int, 0 ≤ i → i < k → p i = p' i ∧ g i = g' i) → filTo p g k = filTo p' g' k
  | 0, _ => rfl
  | k + 1, h => by
    have hk := h k (by omega) (by omega)
    unfold filTo
    rw [filTo_congr fun i h0 h1 => h i h0 (by omega), hk.1, hk.2]
theorem length_filTo_le {α : Type} (p : Int → Bool) (g : Int → α) : ∀ k, (filTo p g k).length ≤ k
  | 0 => Nat.le_refl _
  | k + 1 => by
    have := length_filTo_le p g k
    unfold filTo
    split <;> simp <;> omega
theorem fil_cnt {α : Type} (h : Int → Int) (j : Int) (g : Int → α) : ∀ k, ((filTo (fun i => decide (h i = j)) g k).length : Int) = cntTo h j k
  | 0 => rfl
  | k + 1 => by
    have := fil_cnt h j g k
    unfold filTo cntTo
    by_cases e : h k = j
    · rw [if_pos (decide_eq_true e), if_pos e, List.length_append, ← this]; simp
    · rw [if_neg (by simpa using e), if_neg e, this, Int.add_zero]
/-- The first index at which g is least, of those that p lets. -/
def nrTo (g : Int → Int) (p : Int → Bool) : Nat → Option Int
  | 0 => none
  | k + 1 => match nrTo g p k with
    | none => if p k = true then some k else none
    | some j => if p k = true ∧ g k < g j then some k else some j
def bstV (g : Int → Int) (p : Int → Bool) (z : Int) (k : Nat) : Int := match nrTo g p k with
  | none => z
  | some j => g j
def bstW {α : Type} (wd : Int → List α) (g : Int → Int) (p : Int → Bool) (k : Nat) : List α := match nrTo g p k with
  | none => []
  | some j => wd j
theorem nrTo_some {g : Int → Int} {p : Int → Bool} {j : Int} : ∀ {k : Nat}, nrTo g p k = some j → 0 ≤ j ∧ j < k ∧ p j = true ∧ ∀ i : Int, 0 ≤ i → i < k → p i = true → g j ≤ g i
  | 0, h => by cases h
  | k + 1, h => by
    unfold nrTo at h
    cases e : nrTo g p k with
    | none =>
      have hn : ∀ (m : Nat), nrTo g p m = none → ∀ i : Int, 0 ≤ i → i < m → p i = false := fun m => by
        induction m with
        | zero => intro _ i h0 h1; omega
        | succ m ih =>
          intro h2 i h0 h1
          unfold nrTo at h2
          cases e2 : nrTo g p m with
          | none =>
            rw [e2] at h2
            by_cases hp : p m = true
            · simp [hp] at h2
            · by_cases hi : i = m
              · rw [hi]; simpa using hp
              · exact ih e2 i h0 (by omega)
          | some j => rw [e2] at h2; simp only at h2; split at h2 <;> cases h2
      rw [e] at h
      by_cases hp : p k = true
      · rw [show (match (none : Option Int) with | none => if p k = true then some (k : Int) else none | some j => if p k = true ∧ g k < g j then some (k : Int) else some j) = if p k = true then some (k : Int) else none from rfl, if_pos hp] at h
        cases h
        refine ⟨by omega, by omega, hp, fun i h0 h1 hi => ?_⟩
        by_cases e2 : i = k
        · rw [e2]; exact Int.le_refl _
        · rw [hn k e i h0 (by omega)] at hi; cases hi
      · simp [hp] at h
    | some j' =>
      rw [e] at h
      obtain ⟨h1, h2, h3, h4⟩ := nrTo_some e
      by_cases hp : p k = true ∧ g k < g j'
      · simp only [if_pos hp] at h
        cases h
        refine ⟨by omega, by omega, hp.1, fun i i0 i1 hi => ?_⟩
        by_cases e2 : i = k
        · rw [e2]; exact Int.le_refl _
        · have := h4 i i0 (by omega) hi
          have h5 : g (k : Int) < g j' := hp.2
          exact Int.le_of_lt (Int.lt_of_lt_of_le h5 this)
      · simp only [if_neg hp] at h
        cases h
        refine ⟨h1, by omega, h3, fun i i0 i1 hi => ?_⟩
        by_cases e2 : i = k
        · subst e2
          exact Int.not_lt.1 fun hlt => hp ⟨hi, hlt⟩
        · exact h4 i i0 (by omega) hi
theorem nrTo_none {g : Int → Int} {p : Int → Bool} : ∀ {k : Nat}, nrTo g p k = none → ∀ i : Int, 0 ≤ i → i < k → p i = false
  | 0, _, i, h0, h1 => by omega
  | k + 1, h, i, h0, h1 => by
    unfold nrTo at h
    cases e : nrTo g p k with
    | none =>
      rw [e] at h
      by_cases hp : p k = true
      · simp [hp] at h
      · by_cases hi : i = k
        · rw [hi]; simpa using hp
        · exact nrTo_none e i h0 (by omega)
    | some j => rw [e] at h; simp only at h; split at h <;> cases h
theorem nrTo_congr {g g' : Int → Int} {p p' : Int → Bool} : ∀ {k : Nat}, (∀ i : Int, 0 ≤ i → i < k → g i = g' i ∧ p i = p' i) → nrTo g p k = nrTo g' p' k
  | 0, _ => rfl
  | k + 1, h => by
    have hk := h k (by omega) (by omega)
    have ih := nrTo_congr (k := k) (g := g) (g' := g') (p := p) (p' := p') fun i h0 h1 => h i h0 (by omega)
    unfold nrTo
    rw [← ih]
    cases e : nrTo g p k with
    | none => simp only [hk.2]
    | some j =>
      have hj := nrTo_some e
      simp only [hk.2, hk.1, (h j hj.1 (by omega)).1]
section
variable {α : Type} {g : Int → Int} {p : Int → Bool} {z : Int} {wd : Int → List α} {i : Int}
theorem bst_yes (h0 : 0 ≤ i) (hp : p i = true) (hl : g i < bstV g p z i.toNat) : g i = bstV g p z (i + 1).toNat ∧ wd i = bstW wd g p (i + 1).toNat := by
  unfold bstV bstW at *
  rw [show (i + 1).toNat = i.toNat + 1 by omega, nrTo, show ((i.toNat : Nat) : Int) = i by omega]
  cases e : nrTo g p i.toNat with
  | none => simp [hp]
  | some j => rw [e] at hl; simp only at hl; simp [hp, hl]
theorem bst_no (h0 : 0 ≤ i) (hz : p i = true → g i < z) (hn : ¬ (p i = true ∧ g i < bstV g p z i.toNat)) : bstV g p z i.toNat = bstV g p z (i + 1).toNat ∧ bstW wd g p i.toNat = bstW wd g p (i + 1).toNat := by
  unfold bstV bstW at *
  rw [show (i + 1).toNat = i.toNat + 1 by omega, nrTo, show ((i.toNat : Nat) : Int) = i by omega]
  cases e : nrTo g p i.toNat with
  | none =>
    rw [e] at hn; simp only at hn
    have hp : ¬ p i = true := fun h => hn ⟨h, hz h⟩
    simp [hp]
  | some j => rw [e] at hn; simp only at hn; simp [hn]
theorem bstr_yes (h0 : 0 ≤ i) (hg : ∀ i, 0 ≤ g i) (hp : p i = true) (hl : bstV g p (-1) i.toNat < 0 ∨ g i < bstV g p (-1) i.toNat) : g i = bstV g p (-1) (i + 1).toNat ∧ wd i = bstW wd g p (i + 1).toNat := by
  unfold bstV bstW at *
  rw [show (i + 1).toNat = i.toNat + 1 by omega, nrTo, show ((i.toNat : Nat) : Int) = i by omega]
  cases e : nrTo g p i.toNat with
  | none => simp [hp]
  | some j =>
    rw [e] at hl; simp only at hl
    have := hg j
    have hl' : g i < g j := by omega
    simp [hp, hl']
theorem bstr_no (h0 : 0 ≤ i) (hn : ¬ (bstV g p (-1) i.toNat < 0 ∨ g i < bstV g p (-1) i.toNat)) : bstV g p (-1) i.toNat = bstV g p (-1) (i + 1).toNat ∧ bstW wd g p i.toNat = bstW wd g p (i + 1).toNat := by
  unfold bstV bstW at *
  rw [show (i + 1).toNat = i.toNat + 1 by omega, nrTo, show ((i.toNat : Nat) : Int) = i by omega]
  cases e : nrTo g p i.toNat with
  | none => rw [e] at hn; exact absurd (Or.inl (show (-1 : Int) < 0 by decide)) hn
  | some j =>
    rw [e] at hn; simp only at hn
    have : ¬ g i < g j := fun h => hn (.inr h)
    simp [this]
theorem bst_skip (h0 : 0 ≤ i) (hp : p i = false) : bstV g p z i.toNat = bstV g p z (i + 1).toNat ∧ bstW wd g p i.toNat = bstW wd g p (i + 1).toNat := by
  unfold bstV bstW
  rw [show (i + 1).toNat = i.toNat + 1 by omega, nrTo, show ((i.toNat : Nat) : Int) = i by omega]
  cases e : nrTo g p i.toNat with
  | none => simp [hp]
  | some j => simp [hp]
theorem bst_z {k : Nat} {y : Int} (h0 : 0 ≤ i) (h1 : i < k) (hp : p i = true) : bstV g p z k = bstV g p y k := by
  unfold bstV
  cases e : nrTo g p k with
  | none => rw [nrTo_none e i h0 h1] at hp; cases hp
  | some j => rfl
theorem bst_least {k : Nat} (h0 : 0 ≤ i) (h1 : i < k) (hp : p i = true) : bstV g p z k ≤ g i := by
  unfold bstV
  cases e : nrTo g p k with
  | none => rw [nrTo_none e i h0 h1] at hp; cases hp
  | some j => exact (nrTo_some e).2.2.2 i h0 h1 hp
theorem bstV_congr {g' : Int → Int} {p' : Int → Bool} {k : Nat} (h : ∀ i : Int, 0 ≤ i → i < k → g i = g' i ∧ p i = p' i) : bstV g p z k = bstV g' p' z k := by
  unfold bstV
  rw [← nrTo_congr h]
  cases e : nrTo g p k with
  | none => rfl
  | some j => have hj := nrTo_some e; exact (h j hj.1 (by omega)).1
theorem bstW_congr {g' : Int → Int} {p' : Int → Bool} {wd' : Int → List α} {k : Nat} (h : ∀ i : Int, 0 ≤ i → i < k → g i = g' i ∧ p i = p' i ∧ wd i = wd' i) : bstW wd g p k = bstW wd' g' p' k := by
  unfold bstW
  rw [← nrTo_congr fun i h0 h1 => ⟨(h i h0 h1).1, (h i h0 h1).2.1⟩]
  cases e : nrTo g p k with
  | none => rfl
  | some j => have hj := nrTo_some e; exact (h j hj.1 (by omega)).2.2
end
def valD (q : Int) : List Int → Int := fun l => l.foldl (fun a d => a * q + d) 0
theorem valD_snoc (q : Int) (l : List Int) (d : Int) : valD q (l ++ [d]) = valD q l * q + d := by unfold valD; rw [List.foldl_append]; rfl
theorem valD_dgs {q : Int} (hq : 2 ≤ q) : ∀ (n : Nat) (l : List Int), l.length = n → (∀ d ∈ l, 0 ≤ d ∧ d < q) → 0 ≤ valD q l ∧ valD q l < q ^ n ∧ dgs q n (valD q l) = l
  | 0, l, hl, _ => by
    have : l = [] := List.eq_nil_of_length_eq_zero hl
    subst this
    exact ⟨Int.le_refl _, by simp [valD], rfl⟩
  | n + 1, l, hl, h => by
    obtain ⟨l', d, rfl⟩ : ∃ l' d, l = l' ++ [d] := by
      have hne : l ≠ [] := fun e => by rw [e] at hl; cases hl
      exact ⟨l.dropLast, l.getLast hne, (List.dropLast_concat_getLast hne).symm⟩
    have hl' : l'.length = n := by simp at hl; omega
    obtain ⟨h1, h2, h3⟩ := valD_dgs hq n l' hl' fun x hx => h x (List.mem_append_left _ hx)
    have hd := h d (List.mem_append_right _ (List.mem_singleton.2 rfl))
    rw [valD_snoc]
    refine ⟨Int.add_nonneg (Int.mul_nonneg h1 (by omega)) hd.1, ?_, ?_⟩
    · rw [Int.pow_succ]
      have := Int.mul_le_mul_of_nonneg_right (show valD q l' + 1 ≤ q ^ n by omega) (show 0 ≤ q by omega)
      rw [Int.add_mul, Int.one_mul] at this
      omega
    · rw [dgs_next hd.1 hd.2, h3]
noncomputable def lisE (f : Fld) (l : List Int) (n : Int) : Int := if (l.length : Int) ≠ n then 4 else entErr f l
theorem lisE_zero {f : Fld} {l : List Int} {n : Int} : lisE f l n = 0 ↔ (l.length : Int) = n ∧ ¬ outF f l := by
  unfold lisE
  by_cases h : (l.length : Int) ≠ n
  · rw [if_pos h]; exact Iff.intro (fun h => by cases h) (fun h2 => absurd h2.1 h)
  · rw [if_neg h, entErr_zero]; exact ⟨fun h2 => ⟨Classical.not_not.1 h, h2⟩, fun h2 => h2.2⟩
noncomputable def wrdE (c : Cod) (w : List Int) : Int := if codE c = 0 then lisE c.F w c.N else codE c
theorem wrdE_zero {c : Cod} {w : List Int} : wrdE c w = 0 ↔ COk c ∧ (w.length : Int) = c.N ∧ ¬ outF c.F w := by
  unfold wrdE
  by_cases h : codE c = 0
  · rw [if_pos h, lisE_zero, ← codE_zero]; exact ⟨fun h2 => ⟨h, h2⟩, fun h2 => h2.2⟩
  · rw [if_neg h, ← codE_zero]; exact ⟨fun h2 => absurd h2 h, fun h2 => absurd h2.1 h⟩
noncomputable def encE (c : Cod) (m : List Int) : Int := if codE c = 0 then lisE c.F m c.Gen.length else codE c
noncomputable def encC (c : Cod) (m : List Int) : List Int := if encE c m = 0 then comb c.F m c.Gen c.N else []
theorem encE_zero {c : Cod} {m : List Int} : encE c m = 0 ↔ COk c ∧ m.length = c.Gen.length ∧ ¬ outF c.F m := by
  unfold encE
  by_cases h : codE c = 0
  · rw [if_pos h, lisE_zero, ← codE_zero]; exact ⟨fun h2 => ⟨h, by have := h2.1; omega, h2.2⟩, fun h2 => ⟨by rw [h2.2.1], h2.2.2⟩⟩
  · rw [if_neg h, ← codE_zero]; exact ⟨fun h2 => absurd h2 h, fun h2 => absurd h2.1 h⟩
/-- A message has an index. -/
theorem msg_index {c : Cod} (hk : COk c) {m : List Int} (hl : m.length = c.Gen.length) (ho : ¬ outF c.F m) : ∃ v : Int, 0 ≤ v ∧ v < c.F.q ^ c.Gen.length ∧ comb c.F m c.Gen c.N = wdF c.F c.N c.Gen v := by
  obtain ⟨h1, h2, h3⟩ := valD_dgs hk.q2 c.Gen.length m hl fun x hx => outF_no ho hx
  exact ⟨_, h1, h2, by unfold wdF; rw [h3]⟩
theorem enc_index {c : Cod} {m : List Int} (h : encE c m = 0) : ∃ v : Int, 0 ≤ v ∧ v < c.F.q ^ c.Gen.length ∧ encC c m = wdF c.F c.N c.Gen v := by
  obtain ⟨hk, hl, ho⟩ := encE_zero.1 h
  unfold encC
  rw [if_pos h]
  exact msg_index hk hl ho
abbrev Cod.w (c : Cod) (i : Int) : List Int := wdF c.F c.N c.Gen i
abbrev Cod.n (c : Cod) : Nat := (c.F.q ^ c.Gen.length).toNat
noncomputable def owE (c : Cod) (w : Int) : Int := if codE c = 0 then (if w < 0 ∨ c.N < w then 6 else sizE c) else codE c
noncomputable def owL (c : Cod) (w : Int) : List (List Int) := if owE c w = 0 then filTo (fun i => decide (wt (c.w i) = w)) c.w c.n else []
noncomputable def wnE (c : Cod) (y : List Int) (lo hi : Int) : Int := if wrdE c y = 0 then (if (lo < 0 ∨ c.N < hi) ∨ hi < 0 then 6 else sizE c) else wrdE c y
noncomputable def wnL (c : Cod) (y : List Int) (lo hi : Int) : List (List Int) := if wnE c y lo hi = 0 then filTo (fun i => decide (lo ≤ dst (c.w i) y ∧ dst (c.w i) y ≤ hi)) c.w c.n else []
noncomputable def neE (c : Cod) (y : List Int) : Int := if wrdE c y = 0 then sizE c else wrdE c y
noncomputable def neV (c : Cod) (y : List Int) : Int := if neE c y = 0 then bstV (fun i => dst (c.w i) y) (fun _ => true) (c.N + 1) c.n else 0
noncomputable def neW (c : Cod) (y : List Int) : List Int := if neE c y = 0 then bstW c.w (fun i => dst (c.w i) y) (fun _ => true) c.n else []
noncomputable def liE (c : Cod) : Int := if codE c = 0 then (if c.Gen.length = 0 then 11 else sizE c) else codE c
noncomputable def liV (c : Cod) : Int := if liE c = 0 then bstV (fun i => wt (c.w i)) (fun i => decide (0 < i)) (c.N + 1) c.n else 0
noncomputable def liW (c : Cod) : List Int := if liE c = 0 then bstW c.w (fun i => wt (c.w i)) (fun i => decide (0 < i)) c.n else []
theorem sup_wt {f : Fld} {l : List Int} (ho : ¬ outF f l) : ((filTo (fun z => decide (ix 0 (l.map (inF f)) z ≠ 0)) (fun z => z) l.length).length : Int) = wt l := by
  rw [map_inF ho]
  unfold wt
  have : ∀ k : Nat, ((filTo (fun z => decide (ix 0 l z ≠ 0)) (fun z => z) k).length : Int) = dstTo l [] k := fun k => by
    induction k with
    | zero => rfl
    | succ k ih =>
      unfold filTo dstTo
      rw [ix_nilI]
      by_cases e : ix 0 l k ≠ 0
      · rw [if_pos (decide_eq_true e), if_pos e, List.length_append, ← ih]; simp
      · rw [if_neg (by simpa using e), if_neg e, ih, Int.add_zero]
  exact this _
theorem COk.cn {c : Cod} (h : COk c) : (c.n : Int) = c.F.q ^ c.Gen.length := by
  have := pow_pos_of c.F.q h.q2 c.Gen.length
  exact Int.toNat_of_nonneg (by omega)
theorem wds_len (c : Cod) : (wds c.F c.N c.Gen).length = c.n := length_mapR _ _
theorem wds_ix (c : Cod) {i : Int} (h0 : 0 ≤ i) (h1 : i < c.n) : ix [] (wds c.F c.N c.Gen) i = c.w i := ix_mapR [] _ h0 (by have h2 : i < ((c.F.q ^ c.Gen.length).toNat : Int) := h1; omega)
/-- What the law on words of a weight asks. -/
theorem wrd_zeros {c : Cod} (hk : COk c) : wrdE c (List.replicate c.N.toNat 0) = 0 := wrdE_zero.2 ⟨hk, by have := hk.n1; simp; omega, notOut_zero hk.fld.1 _⟩
theorem ow_wn {c : Cod} (h : codE c = 0) (d : Int) : wnE c (List.replicate c.N.toNat 0) d d = owE c d ∧ wnL c (List.replicate c.N.toNat 0) d d = owL c d := by
  have hk := codE_zero.1 h
  have hn := hk.n1
  have e : wnE c (List.replicate c.N.toNat 0) d d = owE c d := by
    unfold wnE owE
    rw [if_pos (wrd_zeros hk), if_pos h]
    by_cases h1 : d < 0 ∨ c.N < d
    · rw [if_pos h1, if_pos (.inl h1)]
    · rw [if_neg h1, if_neg (by omega)]
  refine ⟨e, ?_⟩
  unfold wnL owL
  rw [e]
  by_cases h1 : owE c d = 0
  · rw [if_pos h1, if_pos h1]
    refine filTo_congr fun i _ _ => ⟨?_, rfl⟩
    rw [dst_zeros (by simp)]
    exact decide_eq_decide.2 (by omega)
  · rw [if_neg h1, if_neg h1]
theorem ow_facts {c : Cod} {d : Int} (h : owE c d = 0) : sizE c = 0 ∧ 0 ≤ d ∧ d ≤ c.N ∧ ((owL c d).length : Int) = ix 0 (wtsL c) d := by
  have hc : codE c = 0 := by
    by_cases hc : codE c = 0
    · exact hc
    · unfold owE at h; rw [if_neg hc] at h; exact absurd h hc
  have h' := h
  unfold owE at h'
  rw [if_pos hc] at h'
  by_cases h1 : d < 0 ∨ c.N < d
  · rw [if_pos h1] at h'; cases h'
  · rw [if_neg h1] at h'
    have hk := (sizE_zero.1 h').1
    refine ⟨h', by omega, by omega, ?_⟩
    unfold owL
    rw [if_pos h, fil_cnt, wtsL_ok h', ix_hisTo (fun i _ _ => hk.wt_le i) (by omega) (by omega)]
theorem li_E {c : Cod} : liE c = if (if codE c = 0 then (if c.Gen.length = 0 then (11 : Int) else 0) else codE c) = 0 then sizE c else (if codE c = 0 then (if c.Gen.length = 0 then (11 : Int) else 0) else codE c) := by
  unfold liE
  by_cases h : codE c = 0
  · rw [if_pos h, if_pos h]
    by_cases h2 : c.Gen.length = 0
    · rw [if_pos h2, if_pos h2, if_neg (by decide)]
    · rw [if_neg h2, if_neg h2, if_pos rfl]
  · rw [if_neg h, if_neg h, if_neg h]
theorem li_zero {c : Cod} (h : liE c = 0) : sizE c = 0 ∧ c.Gen.length ≠ 0 := by
  unfold liE at h
  by_cases h1 : codE c = 0
  · rw [if_pos h1] at h
    by_cases h2 : c.Gen.length = 0
    · rw [if_pos h2] at h; cases h
    · rw [if_neg h2] at h; exact ⟨h, h2⟩
  · rw [if_neg h1] at h; exact absurd h h1
theorem wt_le_dst {c : Cod} (hk : COk c) (i : Int) : dst (c.w i) (List.replicate c.N.toNat 0) = wt (c.w i) := dst_zeros (by simp)
/-- What the law on lightest words asks. -/
theorem li_facts {c : Cod} (h : liE c = 0) : liV c = bstV (fun z => dst (ix [] (wds c.F c.N c.Gen) z) (List.replicate c.N.toNat 0)) (fun z => decide (¬ dst (ix [] (wds c.F c.N c.Gen) z) (List.replicate c.N.toNat 0) = 0)) (-1) (wds c.F c.N c.Gen).length ∧
    liW c = bstW (ix [] (wds c.F c.N c.Gen)) (fun z => dst (ix [] (wds c.F c.N c.Gen) z) (List.replicate c.N.toNat 0)) (fun z => decide (¬ dst (ix [] (wds c.F c.N c.Gen) z) (List.replicate c.N.toNat 0) = 0)) (wds c.F c.N c.Gen).length ∧
    (∀ i : Int, 0 ≤ i → i < c.n → 0 < wt (c.w i) → liV c ≤ wt (c.w i)) := by
  obtain ⟨hs, hg⟩ := li_zero h
  obtain ⟨hk, hq⟩ := sizE_zero.1 hs
  have hq2 := hk.q2
  have h2 : 2 ≤ c.F.q ^ c.Gen.length := by
    obtain ⟨k, hk'⟩ : ∃ k, c.Gen.length = k + 1 := ⟨c.Gen.length - 1, by omega⟩
    rw [hk', Int.pow_succ]
    have h1 := pow_pos_of c.F.q hq2 k
    have := Int.mul_le_mul h1 hq2 (by decide) (by omega)
    omega
  have h3 : (1 : Int) < c.n := by rw [hk.cn]; omega
  have hp : ∀ i : Int, 0 ≤ i → i < c.n → (wt (c.w i) = dst (ix [] (wds c.F c.N c.Gen) i) (List.replicate c.N.toNat 0) ∧ decide (0 < i) = decide (¬ dst (ix [] (wds c.F c.N c.Gen) i) (List.replicate c.N.toNat 0) = 0)) := fun i i0 i1 => by
    rw [wds_ix c i0 i1, wt_le_dst hk]
    refine ⟨rfl, decide_eq_decide.2 ⟨fun h => hk.wt_pos (by omega) (by rw [← hk.cn]; exact i1), fun h => ?_⟩⟩
    by_cases e : i = 0
    · subst e
      rw [show c.w 0 = List.replicate c.N.toNat 0 from hk.wd_zero] at h
      exact absurd (wt_zero.2 (by simp)) h
    · omega
  have e1 : liV c = bstV (fun i => wt (c.w i)) (fun i => decide (0 < i)) (c.N + 1) c.n := if_pos h
  have e2 : liW c = bstW c.w (fun i => wt (c.w i)) (fun i => decide (0 < i)) c.n := if_pos h
  refine ⟨?_, ?_, fun i i0 i1 hw => ?_⟩
  · rw [e1, wds_len, bst_z (y := -1) (i := 1) (by omega) h3 (by decide)]
    exact bstV_congr hp
  · rw [e2, wds_len]
    exact bstW_congr fun i i0 i1 => ⟨(hp i i0 i1).1, (hp i i0 i1).2, (wds_ix c i0 i1).symm⟩
  · rw [e1]
    refine bst_least (g := fun i => wt (c.w i)) i0 i1 (decide_eq_true ?_)
    by_cases e : i = 0
    · subst e
      rw [show c.w 0 = List.replicate c.N.toNat 0 from hk.wd_zero, wt_zero.2 (by simp)] at hw
      cases hw
    · omega
theorem enc_wt {c : Cod} (hs : sizE c = 0) {m : List Int} (h : encE c m = 0) : ∃ v : Int, 0 ≤ v ∧ v < c.n ∧ encC c m = c.w v := by
  obtain ⟨v, h0, h1, h2⟩ := enc_index h
  exact ⟨v, h0, by rw [(sizE_zero.1 hs).1.cn]; exact h1, h2⟩
theorem enc_ok {c : Cod} {m : List Int} (h : encE c m = 0) : ((encC c m).length : Int) = c.N ∧ ¬ outF c.F (encC c m) := by
  obtain ⟨hk, hl, ho⟩ := encE_zero.1 h
  unfold encC
  rw [if_pos h]
  have := hk.n1
  exact ⟨by rw [length_comb]; omega, comb_out hk.fld.1 _ _ _⟩
/-- What the law on nearest words asks. -/
theorem ne_facts {c : Cod} {y : List Int} (h : neE c y = 0) : neV c y = bstV (fun z => dst (ix [] (wds c.F c.N c.Gen) z) y) (fun _ => true) (-1) (wds c.F c.N c.Gen).length ∧
    neW c y = bstW (ix [] (wds c.F c.N c.Gen)) (fun z => dst (ix [] (wds c.F c.N c.Gen) z) y) (fun _ => true) (wds c.F c.N c.Gen).length ∧ sizE c = 0 ∧ (∀ i : Int, 0 ≤ i → i < c.n → neV c y ≤ dst (c.w i) y) := by
  have hs : sizE c = 0 := by
    unfold neE at h
    by_cases h1 : wrdE c y = 0
    · rwa [if_pos h1] at h
    · rw [if_neg h1] at h; exact absurd h h1
  obtain ⟨hk, hq⟩ := sizE_zero.1 hs
  have h1 : 1 ≤ c.F.q ^ c.Gen.length := pow_pos_of c.F.q hk.q2 _
  have h3 : (0 : Int) < c.n := by rw [hk.cn]; omega
  have e1 : neV c y = bstV (fun i => dst (c.w i) y) (fun _ => true) (c.N + 1) c.n := if_pos h
  have e2 : neW c y = bstW c.w (fun i => dst (c.w i) y) (fun _ => true) c.n := if_pos h
  refine ⟨?_, ?_, hs, fun i i0 i1 => by rw [e1]; exact bst_least (g := fun i => dst (c.w i) y) (p := fun _ => true) i0 i1 rfl⟩
  · rw [e1, wds_len, bst_z (y := -1) (i := 0) (Int.le_refl 0) h3 rfl]
    exact bstV_congr fun i i0 i1 => ⟨by rw [wds_ix c i0 i1], rfl⟩
  · rw [e2, wds_len]
    exact bstW_congr fun i i0 i1 => ⟨by rw [wds_ix c i0 i1], rfl, (wds_ix c i0 i1).symm⟩
theorem wn_ref {c : Cod} {y : List Int} {lo hi : Int} (h : wnE c y lo hi = 0) : wnL c y lo hi = filTo (fun z => decide (lo ≤ dst (ix [] (wds c.F c.N c.Gen) z) y ∧ dst (ix [] (wds c.F c.N c.Gen) z) y ≤ hi)) (ix [] (wds c.F c.N c.Gen)) (wds c.F c.N c.Gen).length := by
  unfold wnL
  rw [if_pos h, wds_len]
  exact filTo_congr fun i i0 i1 => by rw [wds_ix c i0 i1]; exact ⟨rfl, rfl⟩
theorem wn_pos {c : Cod} {y : List Int} {t : Int} (h : wnE c y 0 t = 0) : wnL c y 0 t = filTo (fun z => decide (dst (c.w z) y ≤ t)) c.w c.n := by
  unfold wnL
  rw [if_pos h]
  exact filTo_congr fun i _ _ => ⟨decide_eq_decide.2 ⟨fun h => h.2, fun h => ⟨(dst_bd _ _).1, h⟩⟩, rfl⟩
noncomputable def li0 (c : Cod) : Int := if codE c = 0 then (if c.Gen.length = 0 then 11 else 0) else codE c
noncomputable def lwL (c : Cod) : List (List Int) := if liE c = 0 then wds c.F c.N c.Gen else []
theorem li0_E {c : Cod} : liE c = if li0 c = 0 then sizE c else li0 c := li_E
theorem li0_yes {c : Cod} (h : codE c = 0 ∧ (c.Gen.length : Int) = 0) : 11 = li0 c := by unfold li0; rw [if_pos h.1, if_pos (by omega)]
theorem li0_no {c : Cod} (h : ¬ (codE c = 0 ∧ (c.Gen.length : Int) = 0)) : codE c = li0 c := by
  unfold li0
  by_cases h1 : codE c = 0
  · rw [if_pos h1, if_neg (fun h2 => h ⟨h1, by omega⟩)]; exact h1
  · rw [if_neg h1]
theorem lw_yes {c : Cod} (h : li0 c = 0) : wdsL c = lwL c := by
  unfold wdsL lwL
  rw [li0_E, if_pos h]
theorem lw_no {c : Cod} (h : ¬ li0 c = 0) : [] = lwL c := by
  unfold lwL
  rw [li0_E, if_neg h, if_neg h]
theorem li_yes {c : Cod} (h : li0 c = 0) : sizE c = liE c := by rw [li0_E, if_pos h]
theorem li_no {c : Cod} (h : ¬ li0 c = 0) : li0 c = liE c := by rw [li0_E, if_neg h]
theorem lw_ok {c : Cod} (h : liE c = 0) : lwL c = wds c.F c.N c.Gen := if_pos h
theorem liV_no {c : Cod} (h : liE c ≠ 0) : liV c = 0 := if_neg h
theorem liW_no {c : Cod} (h : liE c ≠ 0) : liW c = [] := if_neg h
theorem neV_no {c : Cod} {y : List Int} (h : neE c y ≠ 0) : neV c y = 0 := if_neg h
theorem neW_no {c : Cod} {y : List Int} (h : neE c y ≠ 0) : neW c y = [] := if_neg h
theorem owE_no {c : Cod} {d : Int} (h : codE c ≠ 0) : owE c d = codE c ∧ owL c d = [] := by
  have e : owE c d = codE c := if_neg h
  exact ⟨e, if_neg (by rw [e]; exact h)⟩
end Go.Cw

