/-
  Flows in networks: search, augmenting paths, cuts.
-/
import Derived.Test.YtaipghchkamajaaPlainC
set_option linter.unusedVariables false
set_option linter.unusedSimpArgs false
set_option linter.unusedSectionVars false
namespace Go.Cw
/-! ### Flows in networks -/
/-- The arc's ends in the direction of the step c; what is free along it. -/
def cTail (A : List Arc3) (c : Int) : Int := if c % 2 = 1 then (ix (0, 0, 0) A (c / 2)).2.1 else (ix (0, 0, 0) A (c / 2)).1
def cHead (A : List Arc3) (c : Int) : Int := if c % 2 = 1 then (ix (0, 0, 0) A (c / 2)).1 else (ix (0, 0, 0) A (c / 2)).2.1
def cRes (A : List Arc3) (l : List Int) (c : Int) : Int := if c % 2 = 1 then ix 0 l (c / 2) else (ix (0, 0, 0) A (c / 2)).2.2 - ix 0 l (c / 2)
/-- Is the arc within the network? -/
def arcBad (V : Int) (a : Arc3) : Prop := ((((a.1 < 0 ∨ V ≤ a.1) ∨ a.2.1 < 0) ∨ V ≤ a.2.1) ∨ a.2.2 < 0) ∨ 1099511627776 < a.2.2
structure NetOk (V : Int) (A : List Arc3) : Prop where
  v1 : 1 ≤ V
  v2 : V ≤ 256
  few : A.length ≤ 1024
  arcs : ∀ a ∈ A, ¬ arcBad V a
open Classical in
noncomputable def netErr (V : Int) (A : List Arc3) : Int := if V < 1 ∨ 256 < V then 6 else if 1024 < A.length then 8 else if ∃ a ∈ A, arcBad V a then 6 else 0
theorem netErr_zero {V : Int} {A : List Arc3} (h : NetOk V A) : netErr V A = 0 := by
  have h1 := h.v1
  have h2 := h.v2
  have h3 := h.few
  unfold netErr
  rw [if_neg (by omega), if_neg (by omega), if_neg (fun ⟨a, ha, hb⟩ => h.arcs a ha hb)]
theorem NetOk.arc {V : Int} {A : List Arc3} (h : NetOk V A) {i : Int} (h0 : 0 ≤ i) (h1 : i < A.length) : (0 ≤ (ix (0, 0, 0) A i).1 ∧ (ix (0, 0, 0) A i).1 < V) ∧ (0 ≤ (ix (0, 0, 0) A i).2.1 ∧ (ix (0, 0, 0) A i).2.1 < V) ∧ 0 ≤ (ix (0, 0, 0) A i).2.2 ∧ (ix (0, 0, 0) A i).2.2 ≤ 1099511627776 := by
  have := h.arcs _ (ix_mem (0, 0, 0) A h0 h1)
  unfold arcBad at this
  refine ⟨?_, ?_, ?_⟩ <;> omega
theorem NetOk.tail {V : Int} {A : List Arc3} (h : NetOk V A) {c : Int} (h0 : 0 ≤ c) (h1 : c < 2 * A.length) : (0 ≤ cTail A c ∧ cTail A c < V) ∧ (0 ≤ cHead A c ∧ cHead A c < V) := by
  have := h.arc (i := c / 2) (by omega) (by omega)
  unfold cTail cHead
  split
  · exact ⟨this.2.1, this.1⟩
  · exact ⟨this.1, this.2.1⟩
theorem cTail_even (A : List Arc3) (i : Int) : cTail A (2 * i) = (ix (0, 0, 0) A i).1 := by unfold cTail; rw [if_neg (by omega), show 2 * i / 2 = i by omega]
theorem cTail_odd (A : List Arc3) (i : Int) : cTail A (2 * i + 1) = (ix (0, 0, 0) A i).2.1 := by unfold cTail; rw [if_pos (by omega), show (2 * i + 1) / 2 = i by omega]
theorem cHead_even (A : List Arc3) (i : Int) : cHead A (2 * i) = (ix (0, 0, 0) A i).2.1 := by unfold cHead; rw [if_neg (by omega), show 2 * i / 2 = i by omega]
theorem cHead_odd (A : List Arc3) (i : Int) : cHead A (2 * i + 1) = (ix (0, 0, 0) A i).1 := by unfold cHead; rw [if_pos (by omega), show (2 * i + 1) / 2 = i by omega]
theorem cRes_even (A : List Arc3) (l : List Int) (i : Int) : cRes A l (2 * i) = (ix (0, 0, 0) A i).2.2 - ix 0 l i := by unfold cRes; rw [if_neg (by omega), show 2 * i / 2 = i by omega]
theorem cRes_odd (A : List Arc3) (l : List Int) (i : Int) : cRes A l (2 * i + 1) = ix 0 l i := by unfold cRes; rw [if_pos (by omega), show (2 * i + 1) / 2 = i by omega]
theorem ix_setE {α : Type} (d : α) (l : List α) {i j : Int} (x : α) (h0 : 0 ≤ i) (h1 : i < l.length) (j0 : 0 ≤ j) : ix d (l.set i.toNat x) j = if j = i then x else ix d l j := by
  by_cases h : j = i
  · subst h; rw [if_pos rfl]; simp [ix, List.getD, show j.toNat < l.length by omega]
  · rw [if_neg h]; simp only [ix, List.getD]; rw [List.getElem?_set_ne (by omega)]
/-- Which steps begin at a vertex. -/
structure AdjOk (V : Int) (A : List Arc3) (n : Int) (X : List (List Int)) : Prop where
  len : (X.length : Int) = V
  val : ∀ v : Int, 0 ≤ v → v < V → ∀ c ∈ ix [] X v, 0 ≤ c ∧ c < n ∧ cTail A c = v
  all : ∀ c : Int, 0 ≤ c → c < n → 0 ≤ cTail A c → c ∈ ix [] X (cTail A c)
  bnd : ∀ v : Int, 0 ≤ v → v < V → ((ix [] X v).length : Int) ≤ n
theorem ix_replicate {α : Type} (x : α) (n : Nat) {v : Int} (h0 : 0 ≤ v) (h1 : v < n) (d : α) : ix d (List.replicate n x) v = x := by
  simp [ix, List.getD, List.getElem?_replicate, show v.toNat < n by omega]
theorem AdjOk.zero {V : Int} (A : List Arc3) (h : 0 ≤ V) : AdjOk V A 0 (List.replicate V.toNat []) := by
  refine ⟨by simp; omega, fun v v0 v1 c hc => ?_, fun c c0 c1 _ => by omega, fun v v0 v1 => ?_⟩
  · rw [ix_replicate [] _ v0 (by omega)] at hc; cases hc
  · rw [ix_replicate [] _ v0 (by omega)]; simp
theorem AdjOk.push {V : Int} {A : List Arc3} {n : Int} {X : List (List Int)} (h : AdjOk V A n X) (h0 : 0 ≤ n) {u : Int} (hu : cTail A n = u) (u0 : 0 ≤ u) (u1 : u < V) : AdjOk V A (n + 1) (X.set u.toNat (ix [] X u ++ [n])) := by
  have hl := h.len
  have he : ∀ v : Int, 0 ≤ v → ix [] (X.set u.toNat (ix [] X u ++ [n])) v = if v = u then ix [] X u ++ [n] else ix [] X v := fun v v0 => ix_setE [] X _ u0 (by omega) v0
  refine ⟨by simpa using hl, fun v v0 v1 c hc => ?_, fun c c0 c1 ct => ?_, fun v v0 v1 => ?_⟩
  · rw [he v v0] at hc
    split at hc
    · rename_i hv
      rw [List.mem_append, List.mem_singleton] at hc
      rcases hc with hc | hc
      · have := h.val u u0 u1 c hc
        exact ⟨this.1, by omega, by rw [this.2.2, hv]⟩
      · exact ⟨by omega, by omega, by rw [hc, hu, hv]⟩
    · have := h.val v v0 v1 c hc
      exact ⟨this.1, by omega, this.2.2⟩
  · by_cases hc : c = n
    · rw [hc, hu, he u u0, if_pos rfl]; simp
    · have := h.all c c0 (by omega) ct
      by_cases hv : cTail A c = u
      · rw [hv, he u u0, if_pos rfl]; rw [hv] at this; simp [this]
      · rw [he _ ct, if_neg hv]; exact this
  · rw [he v v0]
    split
    · have := h.bnd u u0 u1; simp; omega
    · have := h.bnd v v0 v1; omega
/-- The two steps of an arc are entered. -/
theorem AdjOk.arc {V : Int} {A : List Arc3} {i : Int} {X : List (List Int)} (hN : NetOk V A) (h : AdjOk V A (2 * i) X) (h0 : 0 ≤ i) (h1 : i < A.length) :
    AdjOk V A (2 * (i + 1)) ((X.set (ix (0, 0, 0) A i).1.toNat (ix [] X (ix (0, 0, 0) A i).1 ++ [2 * i])).set (ix (0, 0, 0) A i).2.1.toNat (ix [] (X.set (ix (0, 0, 0) A i).1.toNat (ix [] X (ix (0, 0, 0) A i).1 ++ [2 * i])) (ix (0, 0, 0) A i).2.1 ++ [2 * i + 1])) := by
  have ha := hN.arc h0 h1
  have := (h.push (by omega) (cTail_even A i) ha.1.1 ha.1.2).push (by omega) (cTail_odd A i) ha.2.1.1 ha.2.1.2
  rwa [show 2 * i + 1 + 1 = 2 * (i + 1) by omega] at this
/-- A flow within the arcs. -/
structure AlOk (A : List Arc3) (l : List Int) : Prop where
  len : l.length = A.length
  bd : ∀ i : Int, 0 ≤ i → i < A.length → 0 ≤ ix 0 l i ∧ ix 0 l i ≤ (ix (0, 0, 0) A i).2.2
theorem AlOk.zero {V : Int} {A : List Arc3} (h : NetOk V A) : AlOk A (List.replicate A.length 0) := by
  refine ⟨by simp, fun i i0 i1 => ?_⟩
  rw [ix_replicate 0 _ i0 i1]
  have := h.arc i0 i1
  omega
theorem AlOk.res {V : Int} {A : List Arc3} {l : List Int} (hN : NetOk V A) (h : AlOk A l) {c : Int} (h0 : 0 ≤ c) (h1 : c < 2 * A.length) : 0 ≤ cRes A l c ∧ cRes A l c ≤ 1099511627776 := by
  have a := hN.arc (i := c / 2) (by omega) (by omega)
  have b := h.bd (c / 2) (by omega) (by omega)
  unfold cRes
  split <;> omega
/-- The vertices that are reached, in the order of the queue, with the steps that lead to them. -/
structure BfsOk (V : Int) (A : List Arc3) (l : List Int) (s : Int) (Q stp : List Int) : Prop where
  len : (stp.length : Int) = V
  nodup : Q.Nodup
  rng : ∀ v ∈ Q, 0 ≤ v ∧ v < V
  mem : ∀ v : Int, 0 ≤ v → v < V → (ix 0 stp v ≠ -2 ↔ v ∈ Q)
  src : s ∈ Q
  root : ix 0 stp s = -1
  tree : ∀ v ∈ Q, v ≠ s → (0 ≤ ix 0 stp v ∧ ix 0 stp v < 2 * A.length) ∧ cHead A (ix 0 stp v) = v ∧ 0 < cRes A l (ix 0 stp v) ∧ cTail A (ix 0 stp v) ∈ Q ∧ Q.idxOf (cTail A (ix 0 stp v)) < Q.idxOf v
theorem BfsOk.few {V : Int} {A : List Arc3} {l : List Int} {s : Int} {Q stp : List Int} (h : BfsOk V A l s Q stp) (hV : 0 ≤ V) : (Q.length : Int) ≤ V := by
  have := nodup_lt_length V.toNat Q h.nodup fun x hx => by have := h.rng x hx; omega
  omega
theorem BfsOk.zero {V : Int} (A : List Arc3) (l : List Int) {s : Int} (h0 : 0 ≤ s) (h1 : s < V) : BfsOk V A l s [s] ((List.replicate V.toNat (-2)).set s.toNat (-1)) := by
  have he : ∀ v : Int, 0 ≤ v → v < V → ix 0 ((List.replicate V.toNat (-2 : Int)).set s.toNat (-1)) v = if v = s then -1 else -2 := fun v v0 v1 => by
    rw [ix_setE 0 _ _ h0 (by simp; omega) v0, ix_replicate _ _ v0 (by omega)]
  refine ⟨by simp; omega, by simp, fun v hv => ?_, fun v v0 v1 => ?_, by simp, by rw [he s h0 h1, if_pos rfl], fun v hv hn => absurd (List.mem_singleton.1 hv) hn⟩
  · rw [List.mem_singleton] at hv; omega
  · rw [he v v0 v1, List.mem_singleton]; split <;> simp_all
theorem idx_app {Q : List Int} {u x : Int} (h : u ∈ Q) : (Q ++ [x]).idxOf u = Q.idxOf u := by rw [List.idxOf_append, if_pos h]
theorem idx_new {Q : List Int} {x : Int} (h : x ∉ Q) : (Q ++ [x]).idxOf x = Q.length := by rw [List.idxOf_append, if_neg h]; simp
theorem BfsOk.add {V : Int} {A : List Arc3} {l : List Int} {s : Int} {Q stp : List Int} (hN : NetOk V A) (h : BfsOk V A l s Q stp) {c : Int} (c0 : 0 ≤ c) (c1 : c < 2 * A.length) (ct : cTail A c ∈ Q) (cr : 0 < cRes A l c) (ch : ix 0 stp (cHead A c) = -2) :
    BfsOk V A l s (Q ++ [cHead A c]) (stp.set (cHead A c).toNat c) := by
  have hr := (hN.tail c0 c1).2
  have hl := h.len
  have he : ∀ v : Int, 0 ≤ v → ix 0 (stp.set (cHead A c).toNat c) v = if v = cHead A c then c else ix 0 stp v := fun v v0 => ix_setE 0 stp c hr.1 (by omega) v0
  have hnq : cHead A c ∉ Q := fun hq => (h.mem _ hr.1 hr.2).2 hq ch
  refine ⟨by simpa using hl, ?_, fun v hv => ?_, fun v v0 v1 => ?_, by simp [h.src], ?_, fun v hv hn => ?_⟩
  · rw [List.nodup_append]
    refine ⟨h.nodup, by simp, fun a ha b hb => ?_⟩
    rw [List.mem_singleton] at hb
    subst hb
    exact fun e => hnq (by rw [← e]; exact ha)
  · rw [List.mem_append, List.mem_singleton] at hv
    rcases hv with hv | hv
    · exact h.rng v hv
    · rw [hv]; exact hr
  · rw [he v v0, List.mem_append, List.mem_singleton]
    split
    · rename_i hv
      exact ⟨fun _ => .inr hv, fun _ => by omega⟩
    · rename_i hv
      rw [h.mem v v0 v1]
      exact ⟨.inl, fun q => q.resolve_right hv⟩
  · have hs := h.rng s h.src
    rw [he s hs.1, if_neg (fun e => hnq (by rw [← e]; exact h.src))]
    exact h.root
  · have hv' := hv
    rw [List.mem_append, List.mem_singleton] at hv
    by_cases hvc : v = cHead A c
    · subst hvc
      rw [he _ hr.1, if_pos rfl, idx_app ct, idx_new hnq]
      exact ⟨⟨c0, c1⟩, rfl, cr, List.mem_append_left _ ct, List.idxOf_lt_length_of_mem ct⟩
    · have hvq : v ∈ Q := hv.resolve_right hvc
      have v0 := (h.rng v hvq).1
      rw [he v v0, if_neg hvc]
      obtain ⟨t1, t2, t3, t4, t5⟩ := h.tree v hvq hn
      exact ⟨t1, t2, t3, List.mem_append_left _ t4, by rw [idx_app t4, idx_app hvq]; exact t5⟩
/-- All steps from the first k vertices of the queue lead to vertices that are reached. -/
def Clo (A : List Arc3) (l : List Int) (X : List (List Int)) (Q stp : List Int) (k : Int) : Prop := ∀ p : Int, 0 ≤ p → p < k → ∀ c ∈ ix [] X (ix 0 Q p), 0 < cRes A l c → ix 0 stp (cHead A c) ≠ -2
def CloJ (A : List Arc3) (l : List Int) (L stp : List Int) (j : Int) : Prop := ∀ q : Int, 0 ≤ q → q < j → 0 < cRes A l (ix 0 L q) → ix 0 stp (cHead A (ix 0 L q)) ≠ -2
theorem set_ne2 {stp : List Int} {u v : Int} {c : Int} (h0 : 0 ≤ u) (h1 : u < stp.length) (c0 : 0 ≤ c) (hv : 0 ≤ v) (h : ix 0 stp v ≠ -2) : ix 0 (stp.set u.toNat c) v ≠ -2 := by
  rw [ix_setE 0 stp c h0 h1 hv]; split <;> omega
theorem Clo.add {V : Int} {A : List Arc3} {l : List Int} {X : List (List Int)} {Q stp : List Int} {k n : Int} (hN : NetOk V A) (hX : AdjOk V A n X) (hn : n ≤ 2 * A.length) (hQ : ∀ v ∈ Q, 0 ≤ v ∧ v < V) (hk : k ≤ Q.length) (h : Clo A l X Q stp k) {u c : Int} (h0 : 0 ≤ u) (h1 : u < stp.length) (c0 : 0 ≤ c) (x : Int) : Clo A l X (Q ++ [x]) (stp.set u.toNat c) k := by
  intro p p0 p1 d hd hr
  have e : ix 0 (Q ++ [x]) p = ix 0 Q p := by simp only [ix, List.getD]; rw [List.getElem?_append_left (by omega)]
  rw [e] at hd
  have hm := hQ _ (ix_mem 0 Q p0 (by omega))
  have hv := hX.val _ hm.1 hm.2 d hd
  exact set_ne2 h0 h1 c0 (hN.tail hv.1 (by omega)).2.1 (h p p0 p1 d hd hr)
theorem CloJ.add {V : Int} {A : List Arc3} {l : List Int} {L stp : List Int} {j : Int} (hN : NetOk V A) (hL : ∀ c ∈ L, 0 ≤ c ∧ c < 2 * A.length) (hj : j ≤ L.length) (h : CloJ A l L stp j) {u c : Int} (h0 : 0 ≤ u) (h1 : u < stp.length) (c0 : 0 ≤ c) : CloJ A l L (stp.set u.toNat c) j := by
  intro q q0 q1 hr
  have hc := hL _ (ix_mem 0 L q0 (by omega))
  exact set_ne2 h0 h1 c0 (hN.tail hc.1 hc.2).2.1 (h q q0 q1 hr)
theorem CloJ.step {A : List Arc3} {l : List Int} {L stp : List Int} {j : Int} (h : CloJ A l L stp j) (h2 : 0 < cRes A l (ix 0 L j) → ix 0 stp (cHead A (ix 0 L j)) ≠ -2) : CloJ A l L stp (j + 1) := by
  intro q q0 q1 hr
  by_cases hq : q = j
  · rw [hq] at hr ⊢; exact h2 hr
  · exact h q q0 (by omega) hr
theorem Clo.step {A : List Arc3} {l : List Int} {X : List (List Int)} {Q stp : List Int} {k : Int} (h : Clo A l X Q stp k) (h2 : CloJ A l (ix [] X (ix 0 Q k)) stp (ix [] X (ix 0 Q k)).length) : Clo A l X Q stp (k + 1) := by
  intro p p0 p1 c hc hr
  by_cases hp : p = k
  · rw [hp] at hc
    obtain ⟨q, q1, q2, rfl⟩ := mem_take_getD 0 (ix [] X (ix 0 Q k)) (ix [] X (ix 0 Q k)).length c (by simpa using hc)
    exact h2 q (by omega) (by omega) hr
  · exact h p p0 (by omega) c hc hr
/-- What Reach returns. -/
structure RchOk (V : Int) (A : List Arc3) (l : List Int) (s : Int) (stp : List Int) : Prop where
  q : ∃ Q, BfsOk V A l s Q stp
  clo : ∀ c : Int, 0 ≤ c → c < 2 * A.length → 0 < cRes A l c → ix 0 stp (cTail A c) ≠ -2 → ix 0 stp (cHead A c) ≠ -2
theorem RchOk.of {V : Int} {A : List Arc3} {l : List Int} {s : Int} {X : List (List Int)} {Q stp : List Int} (hN : NetOk V A) (hX : AdjOk V A (2 * A.length) X) (h : BfsOk V A l s Q stp) {k : Int} (hk : (Q.length : Int) ≤ k) (hc : Clo A l X Q stp k) : RchOk V A l s stp := by
  refine ⟨⟨Q, h⟩, fun c c0 c1 cr ct => ?_⟩
  have ht := (hN.tail c0 c1).1
  have hq := (h.mem _ ht.1 ht.2).1 ct
  obtain ⟨p, p1, p2, hp⟩ := mem_take_getD 0 Q Q.length (cTail A c) (by simpa using hq)
  exact hc p (by omega) (by omega) c (by rw [hp]; exact hX.all c c0 c1 ht.1) cr
/-! A path, from its end. -/
structure SegOk (A : List Arc3) (l : List Int) (Q : List Int) (t v : Int) (p : List Int) : Prop where
  mem : v ∈ Q
  cod : ∀ c ∈ p, (0 ≤ c ∧ c < 2 * A.length) ∧ 0 < cRes A l c ∧ Q.idxOf v < Q.idxOf (cHead A c)
  nodup : (p.map (· / 2)).Nodup
  tel : ∀ χ : Int → Int, (p.map fun c => χ (cTail A c) - χ (cHead A c)).sum = χ v - χ t
theorem SegOk.zero (A : List Arc3) (l : List Int) {Q : List Int} {t : Int} (h : t ∈ Q) : SegOk A l Q t t [] := ⟨h, fun c hc => by (cases hc), by simp, fun χ => by simp⟩
theorem same_arc (A : List Arc3) {c d : Int} (h : c / 2 = d / 2) : (cHead A c = cHead A d ∧ cTail A c = cTail A d) ∨ (cHead A c = cTail A d ∧ cTail A c = cHead A d) := by
  unfold cHead cTail
  rw [h]
  by_cases h1 : c % 2 = 1 <;> by_cases h2 : d % 2 = 1 <;> simp [h1, h2]
theorem SegOk.step {V : Int} {A : List Arc3} {l : List Int} {s : Int} {Q stp : List Int} (h : BfsOk V A l s Q stp) {t v : Int} {p : List Int} (g : SegOk A l Q t v p) (hs : 0 ≤ ix 0 stp v) : SegOk A l Q t (cTail A (ix 0 stp v)) (p ++ [ix 0 stp v]) := by
  have hvs : v ≠ s := fun e => by rw [e, h.root] at hs; omega
  obtain ⟨t1, t2, t3, t4, t5⟩ := h.tree v g.mem hvs
  refine ⟨t4, fun c hc => ?_, ?_, fun χ => ?_⟩
  · rw [List.mem_append, List.mem_singleton] at hc
    rcases hc with hc | hc
    · obtain ⟨c1, c2, c3⟩ := g.cod c hc
      exact ⟨c1, c2, by omega⟩
    · rw [hc, t2]; exact ⟨t1, t3, t5⟩
  · rw [List.map_append, List.nodup_append]
    refine ⟨g.nodup, by simp, fun a ha b hb => ?_⟩
    simp only [List.map_cons, List.map_nil, List.mem_singleton] at hb
    obtain ⟨c, hc, rfl⟩ := List.mem_map.1 ha
    rw [hb]
    intro e
    obtain ⟨c1, c2, c3⟩ := g.cod c hc
    rcases same_arc A e with ⟨q1, _⟩ | ⟨q1, _⟩
    · rw [q1, t2] at c3; omega
    · rw [q1] at c3; omega
  · rw [List.map_append, List.sum_append, g.tel χ]
    simp only [List.map_cons, List.map_nil, List.sum_cons, List.sum_nil, t2]
    omega
theorem SegOk.len {A : List Arc3} {l : List Int} {Q : List Int} {t v : Int} {p : List Int} (g : SegOk A l Q t v p) : p.length ≤ A.length := by
  have := nodup_lt_length A.length (p.map (· / 2)) g.nodup fun x hx => by
    obtain ⟨c, hc, rfl⟩ := List.mem_map.1 hx
    have := (g.cod c hc).1
    omega
  simpa using this
/-- What path returns. -/
structure PathOk (A : List Arc3) (l : List Int) (s t : Int) (p : List Int) : Prop where
  cod : ∀ c ∈ p, (0 ≤ c ∧ c < 2 * A.length) ∧ 0 < cRes A l c
  nodup : (p.map (· / 2)).Nodup
  tel : ∀ χ : Int → Int, (p.map fun c => χ (cTail A c) - χ (cHead A c)).sum = χ s - χ t
  len : p.length ≤ A.length
theorem PathOk.of {V : Int} {A : List Arc3} {l : List Int} {s : Int} {Q stp : List Int} (h : BfsOk V A l s Q stp) {t v : Int} {p : List Int} (g : SegOk A l Q t v p) (hs : ix 0 stp v < 0) : PathOk A l s t p := by
  have hv : v = s := Classical.byContradiction fun hn => by have := (h.tree v g.mem hn).1.1; omega
  subst hv
  exact ⟨fun c hc => ⟨(g.cod c hc).1, (g.cod c hc).2.1⟩, g.nodup, g.tel, g.len⟩
/-! The value of a flow. -/
def flowZ : List Arc3 → List Int → (Int → Int) → Int
  | a :: A, x :: l, χ => x * (χ a.1 - χ a.2.1) + flowZ A l χ
  | _, _, _ => 0
theorem flowZ_set (χ : Int → Int) (y : Int) : ∀ (A : List Arc3) (l : List Int) (i : Nat), i < A.length → i < l.length →
    flowZ A (l.set i y) χ = flowZ A l χ + (y - l.getD i 0) * (χ (A.getD i (0, 0, 0)).1 - χ (A.getD i (0, 0, 0)).2.1)
  | [], _, i, h, _ => by simp at h
  | _ :: _, [], i, _, h => by simp at h
  | a :: A, x :: l, 0, _, _ => by
    simp only [List.set_cons_zero, flowZ, List.getD_cons_zero]
    grind
  | a :: A, x :: l, i + 1, h1, h2 => by
    have ih := flowZ_set χ y A l i (by simpa using h1) (by simpa using h2)
    simp only [List.set_cons_succ, flowZ, List.getD_cons_succ, ih]
    omega
theorem flowZ_zero (χ : Int → Int) : ∀ (A : List Arc3) (n : Nat), flowZ A (List.replicate n 0) χ = 0
  | [], n => by cases n <;> simp [flowZ, List.replicate_succ]
  | a :: A, 0 => by simp [flowZ]
  | a :: A, n + 1 => by simp [flowZ, List.replicate_succ, flowZ_zero χ A n]
/-- What a step adds. -/
def stepTo (A : List Arc3) (l : List Int) (c x : Int) : List Int := l.set (c / 2).toNat (if c % 2 = 1 then ix 0 l (c / 2) - x else ix 0 l (c / 2) + x)
theorem flowZ_step (χ : Int → Int) {A : List Arc3} {l : List Int} {c : Int} (x : Int) (hl : l.length = A.length) (c0 : 0 ≤ c) (c1 : c < 2 * A.length) : flowZ A (stepTo A l c x) χ = flowZ A l χ + x * (χ (cTail A c) - χ (cHead A c)) := by
  unfold stepTo cTail cHead
  rw [flowZ_set χ _ A l (c / 2).toNat (by omega) (by omega)]
  simp only [ix]
  split <;> grind
/-- In the midst of the changes along a path. -/
structure MidOk (A : List Arc3) (l : List Int) (x : Int) (p : List Int) (m : List Int) (j : Int) : Prop where
  al : AlOk A m
  rest : ∀ q : Int, j ≤ q → q < p.length → ix 0 m (ix 0 p q / 2) = ix 0 l (ix 0 p q / 2)
  val : ∀ χ : Int → Int, flowZ A m χ = flowZ A l χ + x * ((p.take j.toNat).map fun c => χ (cTail A c) - χ (cHead A c)).sum
theorem MidOk.zero {A : List Arc3} {l : List Int} (x : Int) (p : List Int) (h : AlOk A l) : MidOk A l x p l 0 := ⟨h, fun _ _ _ => rfl, fun χ => by simp⟩
theorem nodup_ne {p : List Int} (h : (p.map (· / 2)).Nodup) {i j : Int} (i0 : 0 ≤ i) (hij : i < j) (j1 : j < p.length) : ix 0 p i / 2 ≠ ix 0 p j / 2 := by
  have := List.pairwise_iff_getElem.1 h i.toNat j.toNat (by simp; omega) (by simp; omega) (by omega)
  simpa [ix, List.getD, show i.toNat < p.length by omega, show j.toNat < p.length by omega] using this
theorem MidOk.step {V : Int} {A : List Arc3} {l : List Int} {s t x : Int} {p m : List Int} {j : Int} (hN : NetOk V A) (hp : PathOk A l s t p) (hx0 : 0 ≤ x) (hx : ∀ c ∈ p, x ≤ cRes A l c) (h : MidOk A l x p m j) (j0 : 0 ≤ j) (j1 : j < p.length) : MidOk A l x p (stepTo A m (ix 0 p j) x) (j + 1) := by
  have hc := ix_mem 0 p j0 j1
  have h1 := (hp.cod _ hc).1
  have h2 := hx _ hc
  have h3 := h.rest j (by omega) j1
  have h4 := h.al.bd (ix 0 p j / 2) (by omega) (by omega)
  have hl := h.al.len
  refine ⟨⟨by simp [stepTo, hl], fun i i0 i1 => ?_⟩, fun q q0 q1 => ?_, fun χ => ?_⟩
  · unfold stepTo
    rw [ix_setE 0 m _ (by omega) (by omega) i0]
    split
    · rename_i hi
      subst hi
      unfold cRes at h2
      split <;> rename_i hpar
      · rw [if_pos hpar] at h2; omega
      · rw [if_neg hpar] at h2; omega
    · exact h.al.bd i i0 i1
  · unfold stepTo
    have hq := (hp.cod _ (ix_mem 0 p (show 0 ≤ q by omega) q1)).1
    have hne := nodup_ne hp.nodup j0 (show j < q by omega) q1
    rw [ix_setE 0 m _ (by omega) (by omega) (by omega), if_neg (fun e => hne e.symm)]
    exact h.rest q (by omega) q1
  · rw [flowZ_step χ x hl h1.1 h1.2, h.val χ, take_succ_ix 0 p j0 j1, List.map_append, List.sum_append, Int.mul_add]
    simp
    omega
/-! Cuts. -/
def cutC (A : List Arc3) (S : Int → Bool) : Int := (A.map fun a => if S a.1 && !S a.2.1 then a.2.2 else 0).sum
def ind (S : Int → Bool) (v : Int) : Int := if S v then 1 else 0
theorem shift_bd {a : Arc3} {A : List Arc3} {x : Int} {l : List Int} (h : AlOk (a :: A) (x :: l)) : (0 ≤ x ∧ x ≤ a.2.2) ∧ AlOk A l := by
  have h0 := h.bd 0 (by omega) (by simp)
  simp [ix, List.getD] at h0
  refine ⟨h0, by simpa using h.len, fun i i0 i1 => ?_⟩
  have := h.bd (i + 1) (by omega) (by simp; omega)
  simp only [ix, List.getD] at this ⊢
  rw [show (i + 1).toNat = i.toNat + 1 by omega, List.getElem?_cons_succ, List.getElem?_cons_succ] at this
  exact this
theorem flow_le_cut (S : Int → Bool) : ∀ (A : List Arc3) (l : List Int), AlOk A l → flowZ A l (ind S) ≤ cutC A S
  | [], l, _ => by simp [flowZ, cutC]
  | a :: A, [], h => by have := h.len; simp at this
  | a :: A, x :: l, h => by
    obtain ⟨h1, h2⟩ := shift_bd h
    have ih := flow_le_cut S A l h2
    simp only [flowZ, cutC, List.map_cons, List.sum_cons] at ih ⊢
    have : x * (ind S a.1 - ind S a.2.1) ≤ if (S a.1 && !S a.2.1) = true then a.2.2 else 0 := by
      unfold ind
      cases S a.1 <;> cases S a.2.1 <;> simp <;> omega
    omega
theorem flow_eq_cut (S : Int → Bool) : ∀ (A : List Arc3) (l : List Int), l.length = A.length → (∀ i : Nat, i < A.length → (S (A.getD i (0, 0, 0)).1 = true → S (A.getD i (0, 0, 0)).2.1 = false → l.getD i 0 = (A.getD i (0, 0, 0)).2.2) ∧
    (S (A.getD i (0, 0, 0)).1 = false → S (A.getD i (0, 0, 0)).2.1 = true → l.getD i 0 = 0)) → flowZ A l (ind S) = cutC A S
  | [], l, _, _ => by simp [flowZ, cutC]
  | a :: A, [], h, _ => by simp at h
  | a :: A, x :: l, h, h2 => by
    have ih := flow_eq_cut S A l (by simpa using h) (fun i hi => by have := h2 (i + 1) (by simpa using hi); simpa using this)
    have h0 := h2 0 (by simp)
    simp only [List.getD_cons_zero] at h0
    simp only [flowZ, cutC, List.map_cons, List.sum_cons] at ih ⊢
    rw [ih]
    have : x * (ind S a.1 - ind S a.2.1) = if (S a.1 && !S a.2.1) = true then a.2.2 else 0 := by
      unfold ind
      revert h0
      cases S a.1 <;> cases S a.2.1 <;> simp
    omega
def capSum (A : List Arc3) : Int := (A.map fun a => a.2.2).sum
theorem cutC_le {V : Int} : ∀ {A : List Arc3}, (∀ a ∈ A, ¬ arcBad V a) → ∀ S, 0 ≤ cutC A S ∧ cutC A S ≤ capSum A ∧ capSum A ≤ 1099511627776 * A.length
  | [], _, S => by simp [cutC, capSum]
  | a :: A, h, S => by
    have ih := cutC_le (A := A) (fun b hb => h b (by simp [hb])) S
    have ha := h a (by simp)
    unfold arcBad at ha
    simp only [cutC, capSum, List.map_cons, List.sum_cons, List.length_cons] at ih ⊢
    split <;> omega
/-- The value of a greatest flow. -/
def MaxVal (A : List Arc3) (s t v : Int) : Prop := (∃ S : Int → Bool, S s = true ∧ S t = false ∧ v = cutC A S) ∧ ∀ S : Int → Bool, S s = true → S t = false → v ≤ cutC A S
theorem MaxVal.uniq {A : List Arc3} {s t v w : Int} (h : MaxVal A s t v) (g : MaxVal A s t w) : v = w := by
  obtain ⟨⟨S, s1, s2, s3⟩, h2⟩ := h
  obtain ⟨⟨T, t1, t2, t3⟩, g2⟩ := g
  have a := h2 T t1 t2
  have b := g2 S s1 s2
  omega
open Classical in
noncomputable def maxV (A : List Arc3) (s t : Int) : Int := if h : ∃ v, MaxVal A s t v then Classical.choose h else 0
theorem maxV_eq {A : List Arc3} {s t v : Int} (h : MaxVal A s t v) : maxV A s t = v := by
  have hx : ∃ v, MaxVal A s t v := ⟨v, h⟩
  unfold maxV
  rw [dif_pos hx]
  exact (Classical.choose_spec hx).uniq h
/-- What the search for a greatest flow keeps. -/
structure FlOk (A : List Arc3) (s t : Int) (l : List Int) (v : Int) : Prop where
  al : AlOk A l
  val : ∀ χ : Int → Int, χ s - χ t = 1 → flowZ A l χ = v
theorem FlOk.zero {V : Int} {A : List Arc3} (hN : NetOk V A) (s t : Int) : FlOk A s t (List.replicate A.length 0) 0 := ⟨AlOk.zero hN, fun χ _ => flowZ_zero χ A _⟩
theorem ind_st {S : Int → Bool} {s t : Int} (h1 : S s = true) (h2 : S t = false) : ind S s - ind S t = 1 := by simp [ind, h1, h2]
theorem FlOk.le {V : Int} {A : List Arc3} {s t : Int} {l : List Int} {v : Int} (hN : NetOk V A) (hst : s ≠ t) (h : FlOk A s t l v) : v ≤ capSum A := by
  have h1 := h.val (ind fun x => decide (x = s)) (ind_st (by simp) (by simpa using fun e => hst e.symm))
  have h2 := flow_le_cut (fun x => decide (x = s)) A l h.al
  have h3 := cutC_le hN.arcs (fun x => decide (x = s))
  omega
theorem FlOk.next {A : List Arc3} {s t x : Int} {l m p : List Int} {v : Int} (h : FlOk A s t l v) (hp : PathOk A l s t p) (hm : MidOk A l x p m p.length) : FlOk A s t m (v + x) := by
  refine ⟨hm.al, fun χ hχ => ?_⟩
  have := hm.val χ
  rw [h.val χ hχ, List.take_of_length_le (by omega), hp.tel χ, hχ, Int.mul_one] at this
  exact this
theorem FlOk.done {V : Int} {A : List Arc3} {s t : Int} {l stp : List Int} {v : Int} (hN : NetOk V A) (h : FlOk A s t l v) (hr : RchOk V A l s stp) (ht : ix 0 stp t = -2) : MaxVal A s t v := by
  obtain ⟨Q, hQ⟩ := hr.q
  have hs : (fun x => decide (ix 0 stp x ≠ -2)) s = true := by simp [hQ.root]
  have ht2 : (fun x => decide (ix 0 stp x ≠ -2)) t = false := by simp [ht]
  refine ⟨⟨fun x => decide (ix 0 stp x ≠ -2), hs, ht2, ?_⟩, fun S s1 s2 => ?_⟩
  · rw [← h.val (ind fun x => decide (ix 0 stp x ≠ -2)) (ind_st hs ht2)]
    refine flow_eq_cut _ A l h.al.len fun i hi => ?_
    have hb := h.al.bd (i : Int) (by omega) (by omega)
    have c1 := hr.clo (2 * (i : Int)) (by omega) (by omega)
    have c2 := hr.clo (2 * (i : Int) + 1) (by omega) (by omega)
    rw [cRes_even, cTail_even, cHead_even] at c1
    rw [cRes_odd, cTail_odd, cHead_odd] at c2
    simp only [ix, Int.toNat_natCast] at hb c1 c2
    simp only [decide_eq_true_eq, decide_eq_false_iff_not, Classical.not_not]
    refine ⟨fun q1 q2 => ?_, fun q1 q2 => ?_⟩
    · exact Classical.byContradiction fun hn => c1 (by omega) q1 q2
    · exact Classical.byContradiction fun hn => c2 (by omega) q2 q1
  · rw [← h.val _ (ind_st s1 s2)]
    exact flow_le_cut S A l h.al
end Go.Cw
namespace Go.Cw
theorem ix_appL {α : Type} (d : α) (Q R : List α) {k : Int} (h0 : 0 ≤ k) (h1 : k < Q.length) : ix d (Q ++ R) k = ix d Q k := by
  simp only [ix, List.getD]; rw [List.getElem?_append_left (by omega)]
theorem CloJ.full {A : List Arc3} {l : List Int} {L stp : List Int} {j : Int} (h : CloJ A l L stp j) (hj : (L.length : Int) ≤ j) : CloJ A l L stp L.length := fun q q0 q1 => h q q0 (by omega)
end Go.Cw
