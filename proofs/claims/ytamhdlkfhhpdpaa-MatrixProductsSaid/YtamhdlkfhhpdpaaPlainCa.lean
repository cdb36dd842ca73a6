/-
  Facts for the law MatrixProducts.
-/
import Derived.Test.YtamhdlkfhhpdpaaPlainAw
set_option linter.unusedVariables false
set_option linter.unusedSimpArgs false
set_option linter.unusedSectionVars false
namespace Go.Cw
namespace La
variable {K : Type} [Fi K]
theorem Span.left {A A' : Nat → Nat → K} {m : Nat} {v : Nat → K} (e : ∀ i j, i < m → A i j = A' i j) (h : Span A m v) : Span A' m v := by
  obtain ⟨c, rfl⟩ := h
  exact ⟨c, funext fun j => sm_congr fun i hi => by rw [e i j hi]⟩
end La
section
variable {f : Fld} (h : FOk f)
theorem kv_zeros (n j : Nat) : kv h (List.replicate n 0) j = 0 := by
  unfold kv
  rw [show (List.replicate n (0 : Int)).getD j 0 = 0 by simp only [List.getD]; rw [List.getElem?_replicate]; split <;> rfl]
  exact ke_zero h
theorem kv_combTo {x : List Int} {rows : List (List Int)} {cols : Int} (hr : ∀ l ∈ rows, l.length ≤ cols.toNat) (j : Nat) : ∀ n : Nat, kv h (combTo f x rows cols n) j = La.sm (fun i => kv h x i * km h rows i j) n
  | 0 => kv_zeros h _ j
  | n + 1 => by
    have ih := kv_combTo (x := x) hr j n
    show _ = La.sm (fun i => kv h x i * km h rows i j) n + kv h x n * km h rows n j
    rw [← ih, show combTo f x rows cols (n + 1) = (if ix 0 x n = 0 then combTo f x rows cols n else addTo f (combTo f x rows cols n) (ix 0 x n) (ix [] rows n)) from rfl]
    split
    · rename_i e
      rw [kv_ix h x, e, ke_zero, Fi.zero_mul, Fi.add_zero]
    · rw [kv_addTo h (by
        rw [length_combTo, ix_nat]
        by_cases hn : n < rows.length
        · exact hr _ (by rw [List.getD_eq_getElem?_getD, List.getElem?_eq_getElem hn]; exact List.getElem_mem hn)
        · simp only [List.getD]; rw [List.getElem?_eq_none (by omega)]; exact Nat.zero_le _), kv_ix h x, ix_nat [] rows]
      rfl
theorem kv_comb {x : List Int} {rows : List (List Int)} {cols : Int} (hr : ∀ l ∈ rows, l.length ≤ cols.toNat) (hx : rows.length ≤ x.length) : kv h (comb f x rows cols) = La.lin (kv h x) (km h rows) rows.length := by
  funext j
  unfold comb
  rw [kv_combTo h hr j, show min x.length rows.length = rows.length by omega]
  rfl
theorem combTo_out (hS : Shape f) (x : List Int) (rows : List (List Int)) (cols : Int) : ∀ n, ¬ outF f (combTo f x rows cols n)
  | 0 => notOut_zero hS _
  | n + 1 => by
    unfold combTo
    split
    · exact combTo_out hS x rows cols n
    · exact out_addTo hS (combTo_out hS x rows cols n) _ _
theorem comb_out (hS : Shape f) (x : List Int) (rows : List (List Int)) (cols : Int) : ¬ outF f (comb f x rows cols) := combTo_out hS x rows cols _
/-- Lists of elements are equal where their vectors are. -/
theorem kv_ext {a b : List Int} (ha : ¬ outF f a) (hb : ¬ outF f b) (hl : a.length = b.length) (e : ∀ j, j < a.length → kv h a j = kv h b j) : a = b := by
  refine ext_ix 0 hl fun j j0 j1 => ?_
  have qa := ix_ok h.1 ha j
  have qb := ix_ok h.1 hb j
  have := e j.toNat (by omega)
  rw [kv_ix, kv_ix, show ((j.toNat : Nat) : Int) = j by omega] at this
  exact ke_inj h qa.1 qa.2 qb.1 qb.2 this
end
section
variable {f : Fld} {w n : Nat} {X : List (List Int)}
@[simp] theorem length_pickL (row set : List Int) : (pickL row set).length = set.length := by simp [pickL]
end
end Go.Cw
namespace Go.Cw
/-- What the law on reduced matrices asks of a canonical matrix. -/
structure CanF (f : Fld) (m : Mat) : Prop where
  cols : (canM f m).cols = m.cols
  len : (canM f m).rows.length = (canP f m).length
  le : (canP f m).length ≤ m.rows.length
  ok : mErr f (canM f m) = 0
  rng : ∀ i : Int, 0 ≤ i → i < (canP f m).length → 0 ≤ ix 0 (canP f m) i ∧ ix 0 (canP f m) i < m.cols
  inc : ∀ i j : Int, 0 ≤ i → i < j → j < (canP f m).length → ix 0 (canP f m) i < ix 0 (canP f m) j
  ent : ∀ i j : Int, 0 ≤ i → i < (canP f m).length → 0 ≤ j → j < (canP f m).length → ix 0 (ix [] (canM f m).rows j) (ix 0 (canP f m) i) = if j = i then 1 else 0
  lead : ∀ i x : Int, 0 ≤ i → i < (canP f m).length → 0 ≤ x → x < ix 0 (canP f m) i → ix 0 (ix [] (canM f m).rows i) x = 0
  row : ∀ row ∈ m.rows, comb f (pickL row (canP f m)) (canM f m).rows (canM f m).cols = row
  wid : ∀ i : Int, 0 ≤ i → i < (canM f m).rows.length → ((ix [] (canM f m).rows i).length : Int) = m.cols
end Go.Cw
namespace Go.Cw
end Go.Cw

