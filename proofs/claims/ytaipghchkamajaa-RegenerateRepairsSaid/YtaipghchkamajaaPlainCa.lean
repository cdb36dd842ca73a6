/-
  Plain facts.
-/
import Derived.Test.YtaipghchkamajaaPlainAw
set_option linter.unusedVariables false
set_option linter.unusedSimpArgs false
set_option linter.unusedSectionVars false
namespace Go.Cw
namespace La
variable {K : Type} [Fi K]
theorem Span.left {A A' : Nat → Nat → K} {m : Nat} {v : Nat → K} (e : ∀ i j, i < m → A i j = A' i j) (h : Span A m v) : Span A' m v := by
  obtain ⟨c, rfl⟩ := h
  exact ⟨c, funext fun j => sm_congr fun i hi => by rw [e i j hi]⟩
/-- Every matrix has a reduced one with its span. -/
theorem rref_ex (A : Nat → Nat → K) (m : Nat) : ∀ n : Nat, ∃ B p r, Rref B m n p r ∧ (∀ i, i < m → Span A m (B i)) ∧ (∀ i, i < m → Span B m (A i))
  | 0 => ⟨A, fun _ => 0, 0, Rref.zero _ _ _, fun i hi => Span.mem hi, fun i hi => Span.mem hi⟩
  | n + 1 => by
    obtain ⟨B, p, r, h1, h2, h3⟩ := rref_ex A m n
    by_cases hz : ∀ j, r ≤ j → j < m → B j n = 0
    · exact ⟨B, p, r, h1.skip hz, h2, h3⟩
    · obtain ⟨k, hk1, hk2, hne⟩ : ∃ k, r ≤ k ∧ k < m ∧ B k n ≠ 0 :=
        Classical.byContradiction fun hn => hz fun j h4 h5 => Classical.byContradiction fun h6 => hn ⟨j, h4, h5, h6⟩
      obtain ⟨q1, q2⟩ := colA_span B B hk1 hk2 hne
      refine ⟨colA B B r k n, fun i => if i = r then n else p i, r + 1, h1.step hk1 hk2 hne (if_pos rfl) (fun i hi => if_neg (by omega)) (fun i j _ => rfl), fun i hi => (q1 i hi).trans h2, fun i hi => (h3 i hi).trans q2⟩
/-- Vectors with a unit matrix at some places, in a span: they are no more than the rows. -/
theorem indep_le {A B : Nat → Nat → K} {r k : Nat} {q : Nat → Nat} (hq : ∀ i j, i < k → j < k → B i (q j) = if j = i then 1 else 0) (hB : ∀ i, i < k → ∃ v, Span A r v ∧ ∀ j, j < k → B i (q j) = v (q j)) : k ≤ r := by
  obtain ⟨C, p, s, h1, _, h3⟩ := rref_ex (fun i j => A i (q j)) r k
  have hB' : Rref (fun i j => B i (q j)) k k id k :=
    ⟨Nat.le_refl _, fun i j hij _ => hij, fun i hi => hi, fun i hi => by show B i (q i) = 1; rw [hq i i hi hi, if_pos rfl], fun i j hi hj hne => by show B j (q i) = 0; rw [hq j i hj hi, if_neg (Ne.symm hne)],
      fun i x hi hx => by show B i (q x) = 0; rw [hq i x hi (by have : x < i := hx; omega), if_neg (by have : x < i := hx; omega)], fun j x h4 h5 => by omega⟩
  have hsub : Sub (fun i j => B i (q j)) k C r k := fun i hi => by
    obtain ⟨v, ⟨c, rfl⟩, e⟩ := hB i hi
    exact ⟨lin c (fun i j => A i (q j)) r, Span.trans ⟨c, rfl⟩ h3, fun x hx => e x hx⟩
  exact Nat.le_trans (hB'.rank_le h1 hsub) h1.le
end La
section
variable {f : Fld} (h : FOk f)
theorem kv_zeros (n j : Nat) : kv h (List.replicate n 0) j = 0 := by
  unfold kv
  rw [show (List.replicate n (0 : Int)).getD j 0 = 0 by simp only [List.getD]; rw [List.getElem?_replicate]; split <;> rfl]
  exact ke_zero h
theorem kv_combTo {x : List Int} {rows : List (List Int)} {cols : Int} (hr : ∀ l ∈ rows, l.length ≤ cols.toNat) (j : Nat) : ∀ n : Nat, kv h (combTo f x rows cols n) j = La.sm (fun i => kv h x i * km h rows i j) n
  | 0 => kv_zeros h _ j
  | n + 1 => by
    have ih := kv_combTo (x := x) hr j n
    show _ = La.sm (fun i => kv h x i * km h rows i j) n + kv h x n * km h rows n j
    rw [← ih, show combTo f x rows cols (n + 1) = (if ix 0 x n = 0 then combTo f x rows cols n else addTo f (combTo f x rows cols n) (ix 0 x n) (ix [] rows n)) from rfl]
    split
    · rename_i e
      rw [kv_ix h x, e, ke_zero, Fi.zero_mul, Fi.add_zero]
    · rw [kv_addTo h (by
        rw [length_combTo, ix_nat]
        by_cases hn : n < rows.length
        · exact hr _ (by rw [List.getD_eq_getElem?_getD, List.getElem?_eq_getElem hn]; exact List.getElem_mem hn)
        · simp only [List.getD]; rw [List.getElem?_eq_none (by omega)]; exact Nat.zero_le _), kv_ix h x, ix_nat [] rows]
      rfl
theorem kv_comb {x : List Int} {rows : List (List Int)} {cols : Int} (hr : ∀ l ∈ rows, l.length ≤ cols.toNat) (hx : rows.length ≤ x.length) : kv h (comb f x rows cols) = La.lin (kv h x) (km h rows) rows.length := by
  funext j
  unfold comb
  rw [kv_combTo h hr j, show min x.length rows.length = rows.length by omega]
  rfl
theorem combTo_out (hS : Shape f) (x : List Int) (rows : List (List Int)) (cols : Int) : ∀ n, ¬ outF f (combTo f x rows cols n)
  | 0 => notOut_zero hS _
  | n + 1 => by
    unfold combTo
    split
    · exact combTo_out hS x rows cols n
    · exact out_addTo hS (combTo_out hS x rows cols n) _ _
theorem comb_out (hS : Shape f) (x : List Int) (rows : List (List Int)) (cols : Int) : ¬ outF f (comb f x rows cols) := combTo_out hS x rows cols _
/-- Lists of elements are equal where their vectors are. -/
theorem kv_ext {a b : List Int} (ha : ¬ outF f a) (hb : ¬ outF f b) (hl : a.length = b.length) (e : ∀ j, j < a.length → kv h a j = kv h b j) : a = b := by
  refine ext_ix 0 hl fun j j0 j1 => ?_
  have qa := ix_ok h.1 ha j
  have qb := ix_ok h.1 hb j
  have := e j.toNat (by omega)
  rw [kv_ix, kv_ix, show ((j.toNat : Nat) : Int) = j by omega] at this
  exact ke_inj h qa.1 qa.2 qb.1 qb.2 this
theorem elim_span {w : Nat} {X : List (List Int)} (hX : good f w X) (n : Nat) : (∀ i, i < X.length → La.Span (km h X) X.length (km h (elim f X [] n).X i)) ∧ (∀ i, i < X.length → La.Span (km h (elim f X [] n).X) X.length (km h X i)) := by
  refine elim_ind h hX (wide_nil 0) (.inl rfl) (Φ := fun A _ => (∀ i, i < X.length → La.Span (km h X) X.length (A i)) ∧ (∀ i, i < X.length → La.Span A X.length (km h X i))) ?_ ?_ ?_ n
  · rintro A C A' C' e _ ⟨h1, h2⟩
    exact ⟨fun i hi => (h1 i hi).congr (fun j => e i j hi), fun i hi => (h2 i hi).left e⟩
  · rintro A C r k c hr hk hne ⟨h1, h2⟩
    obtain ⟨q1, q2⟩ := colA_span A A hr hk hne
    exact ⟨fun i hi => (q1 i hi).trans h1, fun i hi => (h2 i hi).trans q2⟩
  · exact ⟨fun i hi => La.Span.mem hi, fun i hi => La.Span.mem hi⟩
theorem pvN_ix (X Y : List (List Int)) (n : Nat) {i : Nat} (hi : i < (elim f X Y n).piv.length) : ((pvN (elim f X Y n).piv i : Nat) : Int) = ix 0 (elim f X Y n).piv i := by
  have := piv_ix f X Y n (i := (i : Int)) (by omega) (by omega)
  rw [ix_nat] at this ⊢
  unfold pvN
  omega
end
section
variable {f : Fld} {w n : Nat} {X : List (List Int)}
theorem piv_inc (h : FOk f) (hX : good f w X) {i j : Int} (i0 : 0 ≤ i) (ij : i < j) (j1 : j < (elim f X [] n).piv.length) : ix 0 (elim f X [] n).piv i < ix 0 (elim f X [] n).piv j := by
  have := (elim_rref h hX (wide_nil 0) (.inl rfl) n).inc i.toNat j.toNat (by omega) (by omega)
  have e1 := pvN_ix (f := f) X [] n (i := i.toNat) (by omega)
  have e2 := pvN_ix (f := f) X [] n (i := j.toNat) (by omega)
  rw [show ((i.toNat : Nat) : Int) = i by omega] at e1
  rw [show ((j.toNat : Nat) : Int) = j by omega] at e2
  omega
theorem ix_canR {E : El} {i : Int} (i0 : 0 ≤ i) (i1 : i < E.piv.length) : ix [] (canR E) i = ix [] E.X i := by
  unfold canR
  simp only [ix, List.getD]
  rw [List.getElem?_take, if_pos (by omega)]
theorem km_canR (h : FOk f) {E : El} {i : Nat} (i1 : i < E.piv.length) : km h (canR E) i = km h E.X i := by
  unfold km canR
  simp only [List.getD]
  rw [List.getElem?_take, if_pos i1]
theorem ix_pickL {row set : List Int} {i : Int} (i0 : 0 ≤ i) (i1 : i < set.length) : ix 0 (pickL row set) i = ix 0 row (ix 0 set i) := by
  unfold pickL
  simp only [ix, List.getD, List.getElem?_map]
  rw [List.getElem?_eq_getElem (by omega)]
  rfl
@[simp] theorem length_pickL (row set : List Int) : (pickL row set).length = set.length := by simp [pickL]
end
end Go.Cw
namespace Go.Cw
/-- What the law on reduced matrices asks of a canonical matrix. -/
structure CanF (f : Fld) (m : Mat) : Prop where
  cols : (canM f m).cols = m.cols
  len : (canM f m).rows.length = (canP f m).length
  le : (canP f m).length ≤ m.rows.length
  ok : mErr f (canM f m) = 0
  rng : ∀ i : Int, 0 ≤ i → i < (canP f m).length → 0 ≤ ix 0 (canP f m) i ∧ ix 0 (canP f m) i < m.cols
  inc : ∀ i j : Int, 0 ≤ i → i < j → j < (canP f m).length → ix 0 (canP f m) i < ix 0 (canP f m) j
  ent : ∀ i j : Int, 0 ≤ i → i < (canP f m).length → 0 ≤ j → j < (canP f m).length → ix 0 (ix [] (canM f m).rows j) (ix 0 (canP f m) i) = if j = i then 1 else 0
  lead : ∀ i x : Int, 0 ≤ i → i < (canP f m).length → 0 ≤ x → x < ix 0 (canP f m) i → ix 0 (ix [] (canM f m).rows i) x = 0
  row : ∀ row ∈ m.rows, comb f (pickL row (canP f m)) (canM f m).rows (canM f m).cols = row
  wid : ∀ i : Int, 0 ≤ i → i < (canM f m).rows.length → ((ix [] (canM f m).rows i).length : Int) = m.cols
end Go.Cw
namespace Go.Cw
end Go.Cw

