/-
  Facts for the law MatrixUnique.
-/
import Derived.Test.YtamhdlkfhhpdpaaPlainAw
set_option linter.unusedVariables false
set_option linter.unusedSimpArgs false
set_option linter.unusedSectionVars false
namespace Go.Cw
namespace La
variable {K : Type} [Fi K]
theorem Span.left {A A' : Nat → Nat → K} {m : Nat} {v : Nat → K} (e : ∀ i j, i < m → A i j = A' i j) (h : Span A m v) : Span A' m v := by
  obtain ⟨c, rfl⟩ := h
  exact ⟨c, funext fun j => sm_congr fun i hi => by rw [e i j hi]⟩
end La
section
variable {f : Fld} (h : FOk f)
theorem kv_zeros (n j : Nat) : kv h (List.replicate n 0) j = 0 := by
  unfold kv
  rw [show (List.replicate n (0 : Int)).getD j 0 = 0 by simp only [List.getD]; rw [List.getElem?_replicate]; split <;> rfl]
  exact ke_zero h
/-- Lists of elements are equal where their vectors are. -/
theorem kv_ext {a b : List Int} (ha : ¬ outF f a) (hb : ¬ outF f b) (hl : a.length = b.length) (e : ∀ j, j < a.length → kv h a j = kv h b j) : a = b := by
  refine ext_ix 0 hl fun j j0 j1 => ?_
  have qa := ix_ok h.1 ha j
  have qb := ix_ok h.1 hb j
  have := e j.toNat (by omega)
  rw [kv_ix, kv_ix, show ((j.toNat : Nat) : Int) = j by omega] at this
  exact ke_inj h qa.1 qa.2 qb.1 qb.2 this
theorem elim_span {w : Nat} {X : List (List Int)} (hX : good f w X) (n : Nat) : (∀ i, i < X.length → La.Span (km h X) X.length (km h (elim f X [] n).X i)) ∧ (∀ i, i < X.length → La.Span (km h (elim f X [] n).X) X.length (km h X i)) := by
  refine elim_ind h hX (wide_nil 0) (.inl rfl) (Φ := fun A _ => (∀ i, i < X.length → La.Span (km h X) X.length (A i)) ∧ (∀ i, i < X.length → La.Span A X.length (km h X i))) ?_ ?_ ?_ n
  · rintro A C A' C' e _ ⟨h1, h2⟩
    exact ⟨fun i hi => (h1 i hi).congr (fun j => e i j hi), fun i hi => (h2 i hi).left e⟩
  · rintro A C r k c hr hk hne ⟨h1, h2⟩
    obtain ⟨q1, q2⟩ := colA_span A A hr hk hne
    exact ⟨fun i hi => (q1 i hi).trans h1, fun i hi => (h2 i hi).trans q2⟩
  · exact ⟨fun i hi => La.Span.mem hi, fun i hi => La.Span.mem hi⟩
theorem pvN_ix (X Y : List (List Int)) (n : Nat) {i : Nat} (hi : i < (elim f X Y n).piv.length) : ((pvN (elim f X Y n).piv i : Nat) : Int) = ix 0 (elim f X Y n).piv i := by
  have := piv_ix f X Y n (i := (i : Int)) (by omega) (by omega)
  rw [ix_nat] at this ⊢
  unfold pvN
  omega
end
section
variable {f : Fld} {w n : Nat} {X : List (List Int)}
theorem km_canR (h : FOk f) {E : El} {i : Nat} (i1 : i < E.piv.length) : km h (canR E) i = km h E.X i := by
  unfold km canR
  simp only [List.getD]
  rw [List.getElem?_take, if_pos i1]
@[simp] theorem length_pickL (row set : List Int) : (pickL row set).length = set.length := by simp [pickL]
/-- Matrices with one span have one canonical matrix. -/
theorem can_uniq (h : FOk f) {X' : List (List Int)} (hX : good f n X) (hX' : good f n X') (h1 : ∀ i, i < X.length → La.Span (km h X') X'.length (km h X i)) (h2 : ∀ i, i < X'.length → La.Span (km h X) X.length (km h X' i)) :
    (elim f X [] n).piv = (elim f X' [] n).piv ∧ canR (elim f X [] n) = canR (elim f X' [] n) := by
  have r1 := elim_rref h hX (wide_nil 0) (.inl rfl) n
  have r2 := elim_rref h hX' (wide_nil 0) (.inl rfl) n
  have s1 := elim_span h hX n
  have s2 := elim_span h hX' n
  obtain ⟨e1, e2, e3⟩ := r1.uniq r2 (La.Sub.of fun i hi => ((s1.1 i hi).trans h1).trans s2.2) (La.Sub.of fun i hi => ((s2.1 i hi).trans h2).trans s1.2)
  have hl1 := length_canR f X n
  have hl2 := length_canR f X' n
  refine ⟨ext_ix 0 e1 fun j j0 j1 => ?_, ext_ix [] (by omega) fun j j0 j1 => ?_⟩
  · have a1 := pvN_ix (f := f) X [] n (i := j.toNat) (by omega)
    have a2 := pvN_ix (f := f) X' [] n (i := j.toNat) (by omega)
    have := e2 j.toNat (by omega)
    rw [show ((j.toNat : Nat) : Int) = j by omega] at a1 a2
    omega
  · have g1 := canR_good h.1 hX n _ (ix_mem [] _ j0 j1)
    have g2 := canR_good h.1 hX' n _ (ix_mem [] _ j0 (show j < (canR (elim f X' [] n)).length by omega))
    refine kv_ext h g1.2 g2.2 (by rw [g1.1, g2.1]) fun x hx => ?_
    have := e3 j.toNat x (by omega) (by omega)
    rw [← km_canR h (by omega), ← km_canR h (by omega)] at this
    have q1 : kv h (ix [] (canR (elim f X [] n)) j) = km h (canR (elim f X [] n)) j.toNat := by
      have := ix_nat [] (canR (elim f X [] n)) j.toNat
      rw [show ((j.toNat : Nat) : Int) = j by omega] at this
      rw [this]; rfl
    have q2 : kv h (ix [] (canR (elim f X' [] n)) j) = km h (canR (elim f X' [] n)) j.toNat := by
      have := ix_nat [] (canR (elim f X' [] n)) j.toNat
      rw [show ((j.toNat : Nat) : Int) = j by omega] at this
      rw [this]; rfl
    rw [q1, q2]; exact this
end
end Go.Cw
namespace Go.Cw
/-- What the law on reduced matrices asks of a canonical matrix. -/
structure CanF (f : Fld) (m : Mat) : Prop where
  cols : (canM f m).cols = m.cols
  len : (canM f m).rows.length = (canP f m).length
  le : (canP f m).length ≤ m.rows.length
  ok : mErr f (canM f m) = 0
  rng : ∀ i : Int, 0 ≤ i → i < (canP f m).length → 0 ≤ ix 0 (canP f m) i ∧ ix 0 (canP f m) i < m.cols
  inc : ∀ i j : Int, 0 ≤ i → i < j → j < (canP f m).length → ix 0 (canP f m) i < ix 0 (canP f m) j
  ent : ∀ i j : Int, 0 ≤ i → i < (canP f m).length → 0 ≤ j → j < (canP f m).length → ix 0 (ix [] (canM f m).rows j) (ix 0 (canP f m) i) = if j = i then 1 else 0
  lead : ∀ i x : Int, 0 ≤ i → i < (canP f m).length → 0 ≤ x → x < ix 0 (canP f m) i → ix 0 (ix [] (canM f m).rows i) x = 0
  row : ∀ row ∈ m.rows, comb f (pickL row (canP f m)) (canM f m).rows (canM f m).cols = row
  wid : ∀ i : Int, 0 ≤ i → i < (canM f m).rows.length → ((ix [] (canM f m).rows i).length : Int) = m.cols
end Go.Cw
namespace Go.Cw
end Go.Cw

