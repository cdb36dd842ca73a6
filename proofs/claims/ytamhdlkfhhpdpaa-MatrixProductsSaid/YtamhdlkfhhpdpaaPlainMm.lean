/-
  Facts for the law MatrixProducts.
-/
import Derived.Test.YtamhdlkfhhpdpaaPlainSl
set_option linter.unusedVariables false
set_option linter.unusedSimpArgs false
set_option linter.unusedSectionVars false
namespace Go.Cw
section
variable {f : Fld} (h : FOk f)
/-- Two lists of rows in order that have the same entries. -/
theorem mat_ext {n : Nat} {X X' : List (List Int)} (hX : good f n X) (hX' : good f n X') (hl : X.length = X'.length) (e : ∀ i j, i < X.length → j < n → km h X i j = km h X' i j) : X = X' := by
  refine ext_ix [] hl fun i i0 i1 => ?_
  have g1 := hX _ (ix_mem [] X i0 i1)
  have g2 := hX' _ (ix_mem [] X' i0 (by omega))
  refine kv_ext h g1.2 g2.2 (by rw [g1.1, g2.1]) fun j hj => ?_
  have := e i.toNat j (by omega) (by omega)
  rw [km_at, km_at, show ((i.toNat : Nat) : Int) = i by omega] at this
  exact this
include h in
theorem mul_good {n : Nat} (a : Mat) (b : Mat) (hn : b.cols.toNat = n) : good f n (mulM f a b).rows := fun l hl => by
  obtain ⟨row, _, rfl⟩ := List.mem_map.1 hl
  exact ⟨by rw [length_comb]; exact hn, comb_out h.1 _ _ _⟩
theorem getD_map {α β : Type} (g : α → β) (l : List α) (d : α) (d' : β) {i : Nat} (hi : i < l.length) : (l.map g).getD i d' = g (l.getD i d) := by simp [List.getD, hi]
theorem km_mul {a b : Mat} (ha : matErr f a = 0) (hb : matErr f b = 0) (hm : a.cols = b.rows.length) {i : Nat} (hi : i < a.rows.length) : km h (mulM f a b).rows i = La.lin (km h a.rows i) (km h b.rows) b.rows.length := by
  unfold km mulM
  rw [getD_map _ _ [] [] hi]
  have hl := row_len ha (i := (i : Int)) (by omega) (by omega)
  rw [ix_nat] at hl
  rw [kv_comb h (fun l hl => by rw [(mat_good hb l hl).1]; exact Nat.le_refl _) (by omega)]
  rfl
include h in
theorem mulM_err {a b : Mat} (ha : matErr f a = 0) (hb : matErr f b = 0) : matErr f (mulM f a b) = 0 := by
  have sa := mat_size ha
  have sb := mat_size hb
  exact good_mat sb.1 sb.2.1 (by rw [length_mulM]; omega) (mul_good h a b rfl)
theorem km_mulE {a b : Mat} (ha : matErr f a = 0) (hb : matErr f b = 0) (hm : a.cols = b.rows.length) {i : Nat} (hi : i < a.rows.length) (j : Nat) : km h (mulM f a b).rows i j = La.sm (fun l => km h a.rows i l * km h b.rows l j) b.rows.length := by
  rw [km_mul h ha hb hm hi]; rfl
include h in
/-- Products are associative. -/
theorem mul_assoc {a b c : Mat} (ha : matErr f a = 0) (hb : matErr f b = 0) (hc : matErr f c = 0) (h1 : a.cols = b.rows.length) (h2 : b.cols = c.rows.length) : mulM f (mulM f a b) c = mulM f a (mulM f b c) := by
  have hab := mulM_err h ha hb
  have hbc := mulM_err h hb hc
  have e : (mulM f (mulM f a b) c).rows = (mulM f a (mulM f b c)).rows := by
    refine mat_ext h (mul_good h _ _ rfl) (mul_good h _ _ rfl) (by rw [length_mulM, length_mulM, length_mulM]) fun i j hi _ => ?_
    rw [length_mulM, length_mulM] at hi
    rw [km_mulE h hab hc h2 (by rw [length_mulM]; exact hi), km_mulE h ha hbc (by rw [length_mulM]; exact h1) hi, length_mulM]
    have s1 : ∀ l, km h (mulM f a b).rows i l = La.sm (fun k => km h a.rows i k * km h b.rows k l) b.rows.length := fun l => km_mulE h ha hb h1 hi l
    rw [La.sm_congr (h := fun l => La.sm (fun k => km h a.rows i k * km h b.rows k l * km h c.rows l j) b.rows.length) fun l _ => by rw [s1 l, La.sm_mulR]]
    rw [La.sm_swap]
    refine La.sm_congr fun k hk => ?_
    rw [km_mulE h hb hc h2 hk, ← La.sm_mul]
    exact La.sm_congr fun l _ => Fi.mul_assoc _ _ _
  show Mat.mk c.cols (mulM f (mulM f a b) c).rows = Mat.mk c.cols (mulM f a (mulM f b c)).rows
  rw [e]
theorem length_turnL (rows : List (List Int)) (cols : Int) : (turnL rows cols).length = cols.toNat := by unfold turnL; rw [length_mapR]
theorem ix_map {α β : Type} (g : α → β) (l : List α) (d : α) (d' : β) {i : Int} (h0 : 0 ≤ i) (h1 : i < l.length) : ix d' (l.map g) i = g (ix d l i) := by
  simp only [ix]; exact getD_map g l d d' (by omega)
include h in
include h in
include h in
end
/-- What the law on products asks. -/
structure RingF (f : Fld) (a b : Mat) : Prop where
  p : mErr f (mulM f a b) = 0
  s : mErr f ⟨a.rows.length, turnL a.rows a.cols⟩ = 0
  t : mErr f ⟨b.rows.length, turnL b.rows b.cols⟩ = 0
  y : mErr f (mulM f b ⟨b.rows.length, turnL b.rows b.cols⟩) = 0
  q : mulM f ⟨b.rows.length, turnL b.rows b.cols⟩ ⟨a.rows.length, turnL a.rows a.cols⟩ = ⟨(mulM f a b).rows.length, turnL (mulM f a b).rows (mulM f a b).cols⟩
  x : mulM f (mulM f a b) ⟨b.rows.length, turnL b.rows b.cols⟩ = mulM f a (mulM f b ⟨b.rows.length, turnL b.rows b.cols⟩)
  m1 : (canP f (mulM f a b)).length ≤ (canP f a).length
  m2 : (canP f (mulM f a b)).length ≤ (canP f b).length
end Go.Cw

