/-
  Every cut of an information flow graph has at least the capacity of the bound; the worst history has a cut of just the bound.
-/
import Derived.Test.YtaipghchkamajaaPlainFw
set_option linter.unusedVariables false
set_option linter.unusedSimpArgs false
set_option linter.unusedSectionVars false
namespace Go.Cw
/-! ### The cut-set bound of an information flow graph -/
theorem cutC_app (A B : List Arc3) (S : Int → Bool) : cutC (A ++ B) S = cutC A S + cutC B S := by simp [cutC]
theorem cutC_one (a : Arc3) (S : Int → Bool) : cutC [a] S = if S a.1 && !S a.2.1 then a.2.2 else 0 := by simp [cutC]
theorem cutC_nonneg : ∀ {A : List Arc3}, (∀ a ∈ A, 0 ≤ a.2.2) → ∀ S, 0 ≤ cutC A S
  | [], _, S => by simp [cutC]
  | a :: A, h, S => by
    have ih := cutC_nonneg (A := A) (fun b hb => h b (by simp [hb])) S
    have ha := h a (by simp)
    simp only [cutC, List.map_cons, List.sum_cons] at ih ⊢
    split <;> omega
theorem cutC_mem {S : Int → Bool} {a : Arc3} (h1 : S a.1 = true) (h2 : S a.2.1 = false) : ∀ {A : List Arc3}, (∀ a ∈ A, 0 ≤ a.2.2) → a ∈ A → a.2.2 ≤ cutC A S
  | [], _, h => by cases h
  | b :: A, h, hm => by
    have hb := h b (by simp)
    have hA := cutC_nonneg (A := A) (fun c hc => h c (by simp [hc])) S
    rcases List.mem_cons.1 hm with e | hm
    · subst e
      simp only [cutC, List.map_cons, List.sum_cons] at hA ⊢
      rw [if_pos (by simp [h1, h2])]
      omega
    · have ih := cutC_mem h1 h2 (A := A) (fun c hc => h c (by simp [hc])) hm
      simp only [cutC, List.map_cons, List.sum_cons] at ih ⊢
      split <;> omega
theorem nodup_sub : ∀ {l r : List Int}, l.Nodup → (∀ x ∈ l, x ∈ r) → l.length ≤ r.length
  | [], r, _, _ => by simp
  | x :: l, r, h, hs => by
    obtain ⟨h1, h2⟩ := List.nodup_cons.1 h
    have hx := hs x (by simp)
    have ih := nodup_sub (l := l) (r := r.erase x) h2 (fun y hy => by
      have hne : y ≠ x := fun e => h1 (e ▸ hy)
      exact (List.mem_erase_of_ne hne).2 (hs y (by simp [hy])))
    rw [List.length_erase_of_mem hx] at ih
    have := List.length_pos_of_mem hx
    simp only [List.length_cons]
    omega
theorem lastN_ne {n : Int} (h : List Fl) (hh : ∀ f ∈ h, 0 ≤ f.1 ∧ f.1 < n) : ∀ (i : Nat), i ≤ h.length → ∀ {x y : Int}, 0 ≤ x → x < n → 0 ≤ y → y < n → x ≠ y → ix 0 (lastN n h i) x ≠ ix 0 (lastN n h i) y
  | 0, _, x, y, x0, x1, y0, y1, hne => by
    simp only [lastN]
    rw [ix_mapR 0 _ x0 x1, ix_mapR 0 _ y0 y1]; exact hne
  | i + 1, hi, x, y, x0, x1, y0, y1, hne => by
    have ih := lastN_ne h hh i (by omega) x0 x1 y0 y1 hne
    have hl := length_lastN n h i
    have hf : h.getD i (0, []) ∈ h := by
      have := ix_mem (0, []) h (i := (i : Int)) (by omega) (by omega)
      simpa [ix] using this
    have hb := hh _ hf
    have bx := ix_lastN (n := n) (h := h) (i := (i : Int)) x0 x1 (by omega)
    have bY := ix_lastN (n := n) (h := h) (i := (i : Int)) y0 y1 (by omega)
    rw [Int.toNat_natCast] at bx bY
    simp only [lastN]
    rw [ix_setE 0 _ _ hb.1 (by omega) x0, ix_setE 0 _ _ hb.1 (by omega) y0]
    split <;> split <;> omega
/-- How many of the first m versions are outside. -/
def outs (S : Int → Bool) (m : Int) : List Int := (mapR id m).filter fun v => !S (2 * v + 2)
theorem outs_succ (S : Int → Bool) {m : Int} (h : 0 ≤ m) : (outs S (m + 1)).length = (outs S m).length + if S (2 * m + 2) then 0 else 1 := by
  unfold outs
  rw [mapR_succ id h, List.filter_append, List.length_append]
  cases hS : S (2 * m + 2) <;> simp [hS]
theorem mem_outs (S : Int → Bool) {m v : Int} (h0 : 0 ≤ v) (h1 : v < m) (h : S (2 * v + 2) = false) : v ∈ outs S m := by
  unfold outs
  rw [List.mem_filter]
  refine ⟨?_, by simp [h]⟩
  unfold mapR
  rw [List.mem_map]
  exact ⟨v.toNat, by rw [List.mem_range]; omega, by simp only [id]; omega⟩
theorem outs_many (S : Int → Bool) {m : Int} {L : List Int} {g : Int → Int} (hn : L.Nodup) (hi : ∀ x ∈ L, ∀ y ∈ L, x ≠ y → g x ≠ g y) (hb : ∀ x ∈ L, 0 ≤ g x ∧ g x < m) : (L.filter fun x => !S (2 * g x + 2)).length ≤ (outs S m).length := by
  have h1 : ((L.filter fun x => !S (2 * g x + 2)).map g).Nodup := by
    rw [List.nodup_iff_pairwise_ne, List.pairwise_map]
    have := (hn.sublist (List.filter_sublist (p := fun x => !S (2 * g x + 2))))
    rw [List.nodup_iff_pairwise_ne] at this
    exact this.imp_of_mem fun {x y} hx hy hxy => hi x (List.mem_filter.1 hx).1 y (List.mem_filter.1 hy).1 hxy
  have := nodup_sub h1 (r := outs S m) fun z hz => by
    obtain ⟨x, hx, rfl⟩ := List.mem_map.1 hz
    obtain ⟨hx1, hx2⟩ := List.mem_filter.1 hx
    exact mem_outs S (hb x hx1).1 (hb x hx1).2 (by simpa using hx2)
  simpa using this
theorem filter_two {α : Type} (p : α → Bool) : ∀ L : List α, L.length = (L.filter p).length + (L.filter fun x => !p x).length
  | [] => rfl
  | x :: L => by
    have := filter_two p L
    cases h : p x <;> simp [h] <;> omega
theorem cutC_helps {S : Int → Bool} {n b i : Int} {last : List Int} (h : S (2 * (n + i) + 1) = false) : ∀ L : List Int, cutC (L.map (arcC n b last i)) S = b * ((L.filter fun x => S (2 * ix 0 last x + 2)).length : Int)
  | [] => by simp [cutC]
  | x :: L => by
    have ih := cutC_helps (S := S) (b := b) (last := last) h L
    simp only [cutC, List.map_cons, List.sum_cons] at ih ⊢
    rw [ih]
    cases hx : S (2 * ix 0 last x + 2)
    · simp [arcC, hx, List.filter_cons]
    · simp [arcC, hx, h, List.filter_cons]; rw [Int.mul_add]; omega
/-- The capacity of the arcs that lead to the first m versions, without those from the source. -/
def tot (n a b : Int) (h : List Fl) (S : Int → Bool) (m : Nat) : Int := cutC (mapR (arcB a) m) S + cutC (histArcs n b h (m - n.toNat)) S
theorem tot_bound {n a b k d : Int} {h : List Fl} {S : Int → Bool} (hg : ¬ rngBad n a b) (hh : hErr n h = 0) (hk : ¬ cutBad k d a b) (hd : ∀ f ∈ h, d ≤ (f.2.length : Int)) (hS : ∀ v : Int, 0 ≤ v → v < n → S (2 * v + 1) = true) :
    ∀ m : Nat, m ≤ n.toNat + h.length → cutSum d a b (min (outs S m).length k.toNat) ≤ tot n a b h S m := by
  intro m
  induction m with
  | zero => intro _; simp [outs, mapR, tot, cutC, histArcs, cutSum]
  | succ m ih =>
    intro hm
    have ih := ih (by omega)
    unfold rngBad at hg
    have ho := outs_succ S (m := (m : Int)) (by omega)
    have hB : mapR (arcB a) ((m + 1 : Nat) : Int) = mapR (arcB a) (m : Int) ++ [arcB a m] := mapR_succ (arcB a) (Int.natCast_nonneg m)
    have hone : cutC [arcB a m] S = if (S (2 * (m : Int) + 1) && !S (2 * (m : Int) + 2)) = true then a else 0 := cutC_one _ _
    have hstep : ∃ e : Int, 0 ≤ e ∧ tot n a b h S (m + 1) = tot n a b h S m + (if S (2 * (m : Int) + 1) && !S (2 * (m : Int) + 2) then a else 0) + e ∧
        (S (2 * (m : Int) + 1) = false → (d - ((outs S m).length : Int)) * b ≤ e) := by
      by_cases hmn : m < n.toNat
      · refine ⟨0, by omega, ?_, fun hc => ?_⟩
        · unfold tot
          rw [hB, cutC_app, hone, show m + 1 - n.toNat = 0 by omega, show m - n.toNat = 0 by omega]
          omega
        · rw [hS m (by omega) (by omega)] at hc; cases hc
      · have hi : m + 1 - n.toNat = (m - n.toNat) + 1 := by omega
        have hfm : h.getD (m - n.toNat) (0, []) ∈ h := by
          have := ix_mem (0, []) h (i := ((m - n.toNat : Nat) : Int)) (by omega) (by omega)
          simpa [ix] using this
        have hfl := flErr_zero (hErr_elem hh _ hfm)
        have hnz := hfl.2.2
        obtain ⟨nb, nd⟩ := lstErr_zero.1 hnz
        refine ⟨cutC ((h.getD (m - n.toNat) (0, [])).2.map (arcC n b (lastN n h (m - n.toNat)) ((m - n.toNat : Nat) : Int))) S, ?_, ?_, fun hc => ?_⟩
        · exact cutC_nonneg (fun x hx => by obtain ⟨y, _, rfl⟩ := List.mem_map.1 hx; simp only [arcC]; omega) S
        · unfold tot
          rw [hB, cutC_app, hone, hi, histArcs, cutC_app]
          omega
        · have e1 : n + ((m - n.toNat : Nat) : Int) = m := by omega
          rw [cutC_helps (by rw [e1]; exact hc)]
          have hrng : ∀ x ∈ (h.getD (m - n.toNat) (0, [])).2, 0 ≤ x ∧ x < n := fun x hx => by
            by_cases hb : (x < 0 ∨ n ≤ x) ∨ x = (h.getD (m - n.toNat) (0, [])).1
            · exact absurd ⟨x, hx, hb⟩ nb
            · omega
          have hmany := outs_many S (m := (m : Int)) (L := (h.getD (m - n.toNat) (0, [])).2) (g := fun x => ix 0 (lastN n h (m - n.toNat)) x) nd
            (fun x hx y hy hxy => lastN_ne h (fun f hf => by have := flErr_zero (hErr_elem hh f hf); exact ⟨this.1, this.2.1⟩) _ (by omega) (hrng x hx).1 (hrng x hx).2 (hrng y hy).1 (hrng y hy).2 hxy)
            (fun x hx => by
              have := ix_lastN (n := n) (h := h) (i := ((m - n.toNat : Nat) : Int)) (hrng x hx).1 (hrng x hx).2 (by omega)
              rw [Int.toNat_natCast] at this
              omega)
          have htwo := filter_two (fun x => S (2 * ix 0 (lastN n h (m - n.toNat)) x + 2)) (h.getD (m - n.toNat) (0, [])).2
          have hdl := hd _ hfm
          rw [Int.mul_comm]
          exact Int.mul_le_mul_of_nonneg_left (by omega) (by omega)
    obtain ⟨e, e0, e1, e2⟩ := hstep
    rw [e1]
    by_cases hS2 : S (2 * (m : Int) + 2) = true
    · have : (outs S ((m + 1 : Nat) : Int)).length = (outs S m).length := by
        rw [show ((m + 1 : Nat) : Int) = (m : Int) + 1 by omega, ho, if_pos hS2, Nat.add_zero]
      rw [this]
      have : 0 ≤ (if (S (2 * (m : Int) + 1) && !S (2 * (m : Int) + 2)) = true then a else 0) := by split <;> omega
      omega
    · have hS2' : S (2 * (m : Int) + 2) = false := by simpa using hS2
      have hlen : (outs S ((m + 1 : Nat) : Int)).length = (outs S m).length + 1 := by
        rw [show ((m + 1 : Nat) : Int) = (m : Int) + 1 by omega, ho, if_neg hS2]
      rw [hlen]
      by_cases hjk : (outs S m).length < k.toNat
      · rw [show min ((outs S m).length + 1) k.toNat = (outs S m).length + 1 by omega, cutSum]
        rw [show min (outs S m).length k.toNat = (outs S m).length by omega] at ih
        have : min a ((d - ((outs S m).length : Int)) * b) ≤ (if (S (2 * (m : Int) + 1) && !S (2 * (m : Int) + 2)) = true then a else 0) + e := by
          cases hS1 : S (2 * (m : Int) + 1)
          · have := e2 hS1
            simp
            have := Int.min_le_right a ((d - ((outs S m).length : Int)) * b)
            omega
          · rw [hS2']; simp
            have := Int.min_le_left a ((d - ((outs S m).length : Int)) * b)
            omega
        omega
      · rw [show min ((outs S m).length + 1) k.toNat = min (outs S m).length k.toNat by omega]
        have : 0 ≤ (if (S (2 * (m : Int) + 1) && !S (2 * (m : Int) + 2)) = true then a else 0) := by split <;> omega
        omega
theorem arc_caps {n a b : Int} {h : List Fl} {c : List Int} (hg : ¬ rngBad n a b) : (∀ x ∈ mapR arcA n, 0 ≤ x.2.2) ∧ (∀ x ∈ mapR (arcB a) (n + h.length), 0 ≤ x.2.2) ∧ (∀ i, ∀ x ∈ histArcs n b h i, 0 ≤ x.2.2) ∧ (∀ x ∈ c.map (arcD n h.length (lastN n h h.length)), 0 ≤ x.2.2) := by
  unfold rngBad at hg
  refine ⟨fun x hx => ?_, fun x hx => ?_, fun i => ?_, fun x hx => ?_⟩
  · obtain ⟨j, _, rfl⟩ := List.mem_map.1 hx; simp [arcA]
  · obtain ⟨j, _, rfl⟩ := List.mem_map.1 hx; simp only [arcB]; omega
  · induction i with
    | zero => intro x hx; cases hx
    | succ i ih =>
      intro x hx
      simp only [histArcs, List.mem_append] at hx
      rcases hx with hx | hx
      · exact ih x hx
      · obtain ⟨j, _, rfl⟩ := List.mem_map.1 hx; simp only [arcC]; omega
  · obtain ⟨j, _, rfl⟩ := List.mem_map.1 hx; simp [arcD]
/-- Every cut has at least the bound's capacity. -/
theorem cut_bound {n a b k d : Int} {h : List Fl} {c : List Int} {S : Int → Bool} (hG : GOk n a b h c) (hk : ¬ cutBad k d a b) (hkc : k ≤ c.length) (hd : ∀ f ∈ h, d ≤ (f.2.length : Int)) (h0 : S 0 = true) (h1 : S (2 * (n + h.length) + 1) = false) :
    cutSum d a b k.toNat ≤ cutC (gArcs n a b h c) S := by
  have hr := hG.rng
  obtain ⟨q1, q2, q3, q4⟩ := arc_caps (h := h) (c := c) hr
  have hsum : cutC (gArcs n a b h c) S = cutC (mapR arcA n) S + cutC (mapR (arcB a) (n + h.length)) S + cutC (histArcs n b h h.length) S + cutC (c.map (arcD n h.length (lastN n h h.length))) S := by
    unfold gArcs gHead; rw [cutC_app, cutC_app, cutC_app]
  have p1 := cutC_nonneg q1 S
  have p2 := cutC_nonneg q2 S
  have p3 := cutC_nonneg (q3 h.length) S
  have p4 := cutC_nonneg q4 S
  have hle := cutSum_le k d a b hk k.toNat (by unfold cutBad at hk; omega)
  have hbig : cutSum d a b k.toNat ≤ 1099511627776 := by unfold cutBad at hk; omega
  unfold rngBad at hr
  by_cases hA : ∀ v : Int, 0 ≤ v → v < n → S (2 * v + 1) = true
  · by_cases hC : ∀ x ∈ c, S (2 * ix 0 (lastN n h h.length) x + 2) = false
    · have ht := tot_bound (S := S) hG.rng hG.hist hk hd hA (n.toNat + h.length) (Nat.le_refl _)
      obtain ⟨nb, nd⟩ := lstErr_zero.1 hG.coll
      have hrng : ∀ x ∈ c, 0 ≤ x ∧ x < n := fun x hx => by
        by_cases hb : (x < 0 ∨ n ≤ x) ∨ x = -1
        · exact absurd ⟨x, hx, hb⟩ nb
        · omega
      have hmany := outs_many S (m := n + h.length) (L := c) (g := fun x => ix 0 (lastN n h h.length) x) nd
        (fun x hx y hy hxy => lastN_ne h (fun f hf => by have := flErr_zero (hErr_elem hG.hist f hf); exact ⟨this.1, this.2.1⟩) _ (Nat.le_refl _) (hrng x hx).1 (hrng x hx).2 (hrng y hy).1 (hrng y hy).2 hxy)
        (fun x hx => by
          have := ix_lastN (n := n) (h := h) (i := (h.length : Int)) (hrng x hx).1 (hrng x hx).2 (by omega)
          rw [Int.toNat_natCast] at this
          omega)
      have hall : (c.filter fun x => !S (2 * ix 0 (lastN n h h.length) x + 2)) = c := List.filter_eq_self.2 fun x hx => by simp [hC x hx]
      rw [hall] at hmany
      rw [show ((n.toNat + h.length : Nat) : Int) = n + h.length by omega, show min (outs S (n + (h.length : Int))).length k.toNat = k.toNat by omega] at ht
      unfold tot at ht
      rw [show ((n.toNat + h.length : Nat) : Int) = n + h.length by omega, show n.toNat + h.length - n.toNat = h.length by omega] at ht
      omega
    · obtain ⟨x, hx⟩ := Classical.not_forall.1 hC
      obtain ⟨hx, hs⟩ := Classical.not_imp.1 hx
      have := cutC_mem (S := S) (a := arcD n h.length (lastN n h h.length) x) (by simpa [arcD] using hs) h1 q4 (List.mem_map.2 ⟨x, hx, rfl⟩)
      simp only [arcD] at this
      omega
  · obtain ⟨v, hv⟩ := Classical.not_forall.1 hA
    obtain ⟨v0, hv⟩ := Classical.not_imp.1 hv
    obtain ⟨v1, hv⟩ := Classical.not_imp.1 hv
    have hm : arcA v ∈ mapR arcA n := by
      have := ix_mem (0, 0, 0) (mapR arcA n) (i := v) v0 (by rw [length_mapR]; omega)
      rwa [ix_mapR _ _ v0 v1] at this
    have := cutC_mem (S := S) (a := arcA v) h0 (by simpa [arcA] using hv) q1 hm
    simp only [arcA] at this
    omega
theorem mem_mapR {α : Type} {f : Int → α} {n : Int} {x : α} (h : x ∈ mapR f n) : ∃ v : Int, 0 ≤ v ∧ v < n ∧ x = f v := by
  obtain ⟨j, hj, rfl⟩ := List.mem_map.1 h
  rw [List.mem_range] at hj
  exact ⟨j, by omega, by omega, rfl⟩
/-- The graph is a network. -/
theorem GOk.net {n a b : Int} {h : List Fl} {c : List Int} (hG : GOk n a b h c) : NetOk (2 * (n + h.length) + 2) (gArcs n a b h c) := by
  have hr := hG.rng
  have hb := hG.big
  have hl1 := take_arcs_lt hb (by unfold rngBad at hr; omega) h.length (Nat.le_refl _) a b
  unfold rngBad at hr
  unfold tooBig at hb
  refine ⟨by omega, by omega, ?_, fun x hx => ?_⟩
  · unfold gArcs; rw [List.length_append, List.length_map]; omega
  · unfold gArcs gHead at hx
    simp only [List.mem_append] at hx
    unfold arcBad
    rcases hx with ((hx | hx) | hx) | hx
    · obtain ⟨v, v0, v1, rfl⟩ := mem_mapR hx
      simp only [arcA]; omega
    · obtain ⟨v, v0, v1, rfl⟩ := mem_mapR hx
      simp only [arcB]; omega
    · have : ∀ i : Nat, i ≤ h.length → ∀ x ∈ histArcs n b h i, ¬ ((((((x.1 < 0 ∨ 2 * (n + (h.length : Int)) + 2 ≤ x.1) ∨ x.2.1 < 0) ∨ 2 * (n + (h.length : Int)) + 2 ≤ x.2.1) ∨ x.2.2 < 0) ∨ 1099511627776 < x.2.2)) := by
        intro i
        induction i with
        | zero => intro _ x hx; cases hx
        | succ i ih =>
          intro hi x hx
          simp only [histArcs, List.mem_append] at hx
          rcases hx with hx | hx
          · exact ih (by omega) x hx
          · obtain ⟨y, hy, rfl⟩ := List.mem_map.1 hx
            have hfm : h.getD i (0, []) ∈ h := by
              have := ix_mem (0, []) h (i := (i : Int)) (by omega) (by omega)
              simpa [ix] using this
            obtain ⟨nb, _⟩ := lstErr_zero.1 (flErr_zero (hErr_elem hG.hist _ hfm)).2.2
            have hy2 : 0 ≤ y ∧ y < n := by
              by_cases hb : (y < 0 ∨ n ≤ y) ∨ y = (h.getD i (0, [])).1
              · exact absurd ⟨y, hy, hb⟩ nb
              · omega
            have := ix_lastN (n := n) (h := h) (i := (i : Int)) hy2.1 hy2.2 (by omega)
            rw [Int.toNat_natCast] at this
            simp only [arcC]
            omega
      exact this _ (Nat.le_refl _) x hx
    · obtain ⟨y, hy, rfl⟩ := List.mem_map.1 hx
      obtain ⟨nb, _⟩ := lstErr_zero.1 hG.coll
      have hy2 : 0 ≤ y ∧ y < n := by
        by_cases hb : (y < 0 ∨ n ≤ y) ∨ y = -1
        · exact absurd ⟨y, hy, hb⟩ nb
        · omega
      have := ix_lastN (n := n) (h := h) (i := (h.length : Int)) hy2.1 hy2.2 (by omega)
      rw [Int.toNat_natCast] at this
      simp only [arcD]
      omega
/-! The worst history. -/
def hlpTo (i j : Int) : List Int := (mapR id j).filter fun x => decide (x ≠ i)
theorem hlpTo_step {i j : Int} (h : 0 ≤ j) (hj : j ≠ i) : hlpTo i (j + 1) = hlpTo i j ++ [j] := by unfold hlpTo; rw [mapR_succ id h, List.filter_append]; simp [hj]
theorem hlpTo_stay {i j : Int} (h : 0 ≤ j) (hj : j = i) : hlpTo i (j + 1) = hlpTo i j := by unfold hlpTo; rw [mapR_succ id h, List.filter_append]; simp [hj]
def worst (d : Int) (i : Int) : Fl := (i, hlpTo i (d + 1))
def worstH (k d : Int) : List Fl := mapR (worst d) k
theorem mapR_nodup (n : Int) : (mapR id n).Nodup := by
  unfold mapR
  rw [List.nodup_iff_pairwise_ne, List.pairwise_map]
  have := List.nodup_range (n := n.toNat)
  rw [List.nodup_iff_pairwise_ne] at this
  exact this.imp fun {a b} hab => by simp only [id]; omega
theorem mem_hlpTo {i j x : Int} (h : x ∈ hlpTo i j) : 0 ≤ x ∧ x < j ∧ x ≠ i := by
  obtain ⟨h1, h2⟩ := List.mem_filter.1 h
  obtain ⟨v, v0, v1, rfl⟩ := mem_mapR h1
  exact ⟨v0, v1, by simpa using h2⟩
theorem hErr_all {n : Int} : ∀ {h : List Fl}, (∀ f ∈ h, flErr n f = 0) → hErr n h = 0
  | [], _ => rfl
  | f :: r, h => by
    simp only [hErr]
    rw [if_pos (h f (by simp))]
    exact hErr_all fun g hg => h g (by simp [hg])
theorem worst_ok {k d a b : Int} (hk : 1 ≤ k) (hkd : k ≤ d) (hd : d ≤ 7) (ha : 0 ≤ a) (ha2 : a ≤ 255) (hb : 0 ≤ b) (hb2 : b ≤ 255) : GOk (d + 1) a b (worstH k d) (mapR id k) := by
  have hh : hErr (d + 1) (worstH k d) = 0 := hErr_all fun f hf => by
    obtain ⟨v, v0, v1, rfl⟩ := mem_mapR hf
    unfold flErr worst
    simp only
    rw [if_neg (by omega), lstErr_zero]
    refine ⟨?_, (mapR_nodup _).sublist List.filter_sublist⟩
    rintro ⟨x, hx, hbad⟩
    have := mem_hlpTo hx
    omega
  have hl : (worstH k d).length = k.toNat := length_mapR _ _
  have ha3 := hArcs_le (n := d + 1) (by omega) hh
  refine ⟨by unfold rngBad; omega, hh, ?_, ?_⟩
  · rw [lstErr_zero]
    refine ⟨?_, mapR_nodup _⟩
    rintro ⟨x, hx, hbad⟩
    obtain ⟨v, v0, v1, e⟩ := mem_mapR hx
    have e2 : x = v := e
    omega
  · unfold tooBig
    rw [length_mapR]
    omega
def worstS (k d a b : Int) (x : Int) : Bool :=
  !(decide (x = 2 * (d + 1 + k) + 1) || decide (x % 2 = 0 ∧ d + 1 ≤ (x - 2) / 2 ∧ (x - 2) / 2 < d + 1 + k) || decide (x % 2 = 1 ∧ d + 1 ≤ (x - 1) / 2 ∧ (x - 1) / 2 < d + 1 + k ∧ (d - ((x - 1) / 2 - (d + 1))) * b < a))
theorem worstS_in {k d a b v : Int} (hk : v < d + 1) (hk0 : 0 ≤ k) : worstS k d a b (2 * v + 1) = true := by
  unfold worstS
  rw [show (2 * v + 1 - 1) / 2 = v by omega]
  simp only [Bool.not_eq_true', Bool.or_eq_false_iff, decide_eq_false_iff_not]
  refine ⟨⟨by omega, by omega⟩, fun h => by omega⟩
theorem worstS_inN {k d a b j : Int} (h0 : 0 ≤ j) (h1 : j < k) : worstS k d a b (2 * (d + 1 + j) + 1) = decide (¬ (d - j) * b < a) := by
  unfold worstS
  rw [show (2 * (d + 1 + j) + 1 - 1) / 2 = d + 1 + j by omega, show d + 1 + j - (d + 1) = j by omega]
  by_cases h : (d - j) * b < a
  · simp [h]; omega
  · simp [h]; omega
theorem worstS_out {k d a b v : Int} (hk : v < d + 1 ∨ d + 1 + k ≤ v) : worstS k d a b (2 * v + 2) = true := by
  unfold worstS
  rw [show (2 * v + 2 - 2) / 2 = v by omega]
  simp only [Bool.not_eq_true', Bool.or_eq_false_iff, decide_eq_false_iff_not]
  refine ⟨⟨by omega, by omega⟩, by omega⟩
theorem worstS_outN {k d a b j : Int} (h0 : 0 ≤ j) (h1 : j < k) : worstS k d a b (2 * (d + 1 + j) + 2) = false := by
  unfold worstS
  rw [show (2 * (d + 1 + j) + 2 - 2) / 2 = d + 1 + j by omega]
  simp only [Bool.not_eq_false', Bool.or_eq_true, decide_eq_true_eq]
  exact .inl (.inr ⟨by omega, by omega, by omega⟩)
theorem lastW {k d : Int} (hkd : k ≤ d) : ∀ j : Nat, (j : Int) ≤ k → ∀ {x : Int}, 0 ≤ x → x < d + 1 → ix 0 (lastN (d + 1) (worstH k d) j) x = if x < j then d + 1 + x else x
  | 0, _, x, x0, x1 => by
    simp only [lastN]
    rw [ix_mapR 0 _ x0 x1, if_neg (by omega)]; rfl
  | j + 1, hj, x, x0, x1 => by
    have ih := lastW hkd j (by omega) x0 x1
    have hl := length_lastN (d + 1) (worstH k d) j
    have hg : (worstH k d).getD j (0, []) = worst d j := by
      have := ix_mapR (0, []) (worst d) (v := k) (i := (j : Int)) (by omega) (by omega)
      simpa [ix, worstH] using this
    simp only [lastN]
    rw [hg, show (worst d (j : Int)).1 = (j : Int) from rfl, ix_setE 0 _ _ (by omega) (by omega) x0, ih]
    split <;> split <;> (try split) <;> omega
theorem cutW_helps {k d a b : Int} (hkd : k ≤ d) {j : Nat} (hj : (j : Int) < k) (hc : (d - j) * b < a) : ∀ m : Nat, (m : Int) ≤ d + 1 →
    (((hlpTo (j : Int) m).filter fun x => worstS k d a b (2 * ix 0 (lastN (d + 1) (worstH k d) j) x + 2)).length : Int) = max 0 ((m : Int) - (j + 1))
  | 0, _ => by simp [hlpTo, mapR]; omega
  | m + 1, hm => by
    have ih := cutW_helps hkd hj hc m (by omega)
    rw [show ((m + 1 : Nat) : Int) = (m : Int) + 1 by omega]
    have hw := lastW hkd j (by omega) (x := (m : Int)) (by omega) (by omega)
    by_cases hmj : (m : Int) = j
    · rw [hlpTo_stay (by omega) hmj, ih]; omega
    · rw [hlpTo_step (by omega) hmj, List.filter_append, List.length_append, Int.natCast_add, ih]
      by_cases hlt : (m : Int) < j
      · have : worstS k d a b (2 * ix 0 (lastN (d + 1) (worstH k d) j) m + 2) = false := by rw [hw, if_pos hlt]; exact worstS_outN (by omega) (by omega)
        simp [this]; omega
      · have : worstS k d a b (2 * ix 0 (lastN (d + 1) (worstH k d) j) m + 2) = true := by rw [hw, if_neg hlt]; exact worstS_out (.inl (by omega))
        simp [this]; omega
theorem cutC_in {S : Int → Bool} {n b i : Int} {last : List Int} (h : S (2 * (n + i) + 1) = true) : ∀ L : List Int, cutC (L.map (arcC n b last i)) S = 0
  | [] => by simp [cutC]
  | x :: L => by
    have ih := cutC_in (S := S) (b := b) (last := last) h L
    simp only [cutC, List.map_cons, List.sum_cons] at ih ⊢
    rw [ih]
    simp [arcC, h]
theorem cutW_head (k d a b : Int) (hk : 0 ≤ k) : ∀ m : Nat, (m : Int) ≤ d + 1 → cutC (mapR arcA m) (worstS k d a b) = 0 ∧ cutC (mapR (arcB a) m) (worstS k d a b) = 0
  | 0, _ => by simp [mapR, cutC]
  | m + 1, hm => by
    have ih := cutW_head k d a b hk m (by omega)
    rw [show ((m + 1 : Nat) : Int) = (m : Int) + 1 by omega, mapR_succ arcA (by omega), mapR_succ (arcB a) (by omega), cutC_app, cutC_app, ih.1, ih.2, cutC_one, cutC_one]
    simp [arcA, arcB, worstS_in (k := k) (d := d) (a := a) (b := b) (v := (m : Int)) (by omega) hk, worstS_out (k := k) (d := d) (a := a) (b := b) (v := (m : Int)) (.inl (by omega))]
theorem cutW_tot {k d a b : Int} (hkd : k ≤ d) (hk0 : 0 ≤ k) : ∀ j : Nat, (j : Int) ≤ k →
    cutC (mapR (arcB a) (d + 1 + j)) (worstS k d a b) + cutC (histArcs (d + 1) b (worstH k d) j) (worstS k d a b) = cutSum d a b j
  | 0, _ => by
    have := (cutW_head k d a b hk0 (d + 1).toNat (by omega)).2
    rw [show (((d + 1).toNat : Nat) : Int) = d + 1 by omega] at this
    rw [show d + 1 + ((0 : Nat) : Int) = d + 1 by omega, this]
    simp [histArcs, cutC, cutSum]
  | j + 1, hj => by
    have ih := cutW_tot (a := a) (b := b) hkd hk0 j (by omega)
    have hg : (worstH k d).getD j (0, []) = worst d j := by
      have := ix_mapR (0, []) (worst d) (v := k) (i := (j : Int)) (by omega) (by omega)
      simpa [ix, worstH] using this
    rw [show d + 1 + ((j + 1 : Nat) : Int) = d + 1 + (j : Int) + 1 by omega, mapR_succ (arcB a) (by omega), cutC_app, cutC_one]
    simp only [histArcs, cutC_app, hg, cutSum]
    have hi := worstS_inN (k := k) (d := d) (a := a) (b := b) (j := (j : Int)) (by omega) (by omega)
    have ho := worstS_outN (k := k) (d := d) (a := a) (b := b) (j := (j : Int)) (by omega) (by omega)
    simp only [arcB, hi, ho]
    by_cases hc : (d - (j : Int)) * b < a
    · rw [show decide (¬ (d - (j : Int)) * b < a) = false from decide_eq_false (fun h => h hc)] at hi ⊢
      rw [cutC_helps hi]
      have := cutW_helps (k := k) hkd (j := j) (by omega) hc (d + 1).toNat (by omega)
      rw [show (((d + 1).toNat : Nat) : Int) = d + 1 by omega] at this
      simp only [worst]
      rw [this, show max 0 (d + 1 - ((j : Int) + 1)) = d - j by omega, Int.min_eq_right (by omega), Int.mul_comm b]
      simp
      omega
    · rw [show decide (¬ (d - (j : Int)) * b < a) = true from decide_eq_true hc] at hi ⊢
      rw [cutC_in hi, Int.min_eq_left (by omega)]
      simp
      omega
theorem cutW_coll {k d a b : Int} (hkd : k ≤ d) : ∀ m : Nat, (m : Int) ≤ k → cutC ((mapR id m).map (arcD (d + 1) (worstH k d).length (lastN (d + 1) (worstH k d) (worstH k d).length))) (worstS k d a b) = 0
  | 0, _ => by simp [mapR, cutC]
  | m + 1, hm => by
    have ih := cutW_coll (a := a) (b := b) hkd m (by omega)
    have hl : (worstH k d).length = k.toNat := length_mapR _ _
    rw [show ((m + 1 : Nat) : Int) = (m : Int) + 1 by omega, mapR_succ id (by omega), List.map_append, cutC_app, ih]
    have hw := lastW hkd k.toNat (by omega) (x := (m : Int)) (by omega) (by omega)
    rw [if_pos (by omega)] at hw
    simp only [List.map_cons, List.map_nil, id]
    rw [cutC_one]
    simp only [arcD, hl, hw, worstS_outN (k := k) (d := d) (a := a) (b := b) (j := (m : Int)) (by omega) (by omega)]
    simp
theorem cut_worst {k d a b : Int} (hk : 1 ≤ k) (hkd : k ≤ d) : worstS k d a b 0 = true ∧ worstS k d a b (2 * (d + 1 + ((worstH k d).length : Int)) + 1) = false ∧
    cutC (gArcs (d + 1) a b (worstH k d) (mapR id k)) (worstS k d a b) = cutSum d a b k.toNat := by
  have hl : (worstH k d).length = k.toNat := length_mapR _ _
  refine ⟨?_, ?_, ?_⟩
  · have := worstS_out (k := k) (d := d) (a := a) (b := b) (v := -1) (.inl (by omega))
    simpa using this
  · rw [hl, show ((k.toNat : Nat) : Int) = k by omega]; unfold worstS; simp
  · unfold gArcs gHead
    rw [cutC_app, cutC_app, cutC_app]
    have h1 := (cutW_head k d a b (by omega) (d + 1).toNat (by omega)).1
    have h2 := cutW_tot (a := a) (b := b) hkd (by omega) k.toNat (by omega)
    have h3 := cutW_coll (a := a) (b := b) hkd k.toNat (by omega)
    rw [show (((d + 1).toNat : Nat) : Int) = d + 1 by omega] at h1
    rw [show ((k.toNat : Nat) : Int) = k by omega] at h2 h3
    rw [h1, h3, hl, show ((k.toNat : Nat) : Int) = k by omega]
    omega
theorem max_bound {n a b k d v : Int} {h : List Fl} {c : List Int} (hG : GOk n a b h c) (hk : ¬ cutBad k d a b) (hkc : k ≤ c.length) (hd : ∀ f ∈ h, d ≤ (f.2.length : Int)) (hv : MaxVal (gArcs n a b h c) 0 (2 * (n + h.length) + 1) v) : cutSum d a b k.toNat ≤ v := by
  obtain ⟨⟨S, s1, s2, s3⟩, _⟩ := hv
  rw [s3]
  exact cut_bound hG hk hkc hd s1 s2
theorem hlpTo_len {i : Int} (h0 : 0 ≤ i) : ∀ m : Nat, ((hlpTo i m).length : Int) = if (m : Int) ≤ i then (m : Int) else m - 1
  | 0 => by simp [hlpTo, mapR]; omega
  | m + 1 => by
    have ih := hlpTo_len h0 m
    rw [show ((m + 1 : Nat) : Int) = (m : Int) + 1 by omega]
    by_cases h : (m : Int) = i
    · rw [hlpTo_stay (by omega) h, ih]; split <;> split <;> omega
    · rw [hlpTo_step (by omega) h, List.length_append, Int.natCast_add, ih]; simp; split <;> split <;> omega
theorem max_worst {k d a b v : Int} (hk : 1 ≤ k) (hkd : k ≤ d) (hd : d ≤ 7) (ha : 0 ≤ a) (ha2 : a ≤ 255) (hb : 0 ≤ b) (hb2 : b ≤ 255) (hv : MaxVal (gArcs (d + 1) a b (worstH k d) (mapR id k)) 0 (2 * (d + 1 + ((worstH k d).length : Int)) + 1) v) : v = cutSum d a b k.toNat := by
  have hG := worst_ok hk hkd hd ha ha2 hb hb2
  have h1 := max_bound hG (k := k) (d := d) (by unfold cutBad; omega) (by rw [length_mapR]; omega) (fun f hf => by
    obtain ⟨w, w0, w1, rfl⟩ := mem_mapR hf
    have := hlpTo_len w0 (d + 1).toNat
    rw [show (((d + 1).toNat : Nat) : Int) = d + 1 by omega] at this
    simp only [worst]
    rw [this]; split <;> omega) hv
  obtain ⟨c1, c2, c3⟩ := cut_worst (a := a) (b := b) hk hkd
  have := hv.2 _ c1 c2
  omega
end Go.Cw
