/-
  Facts for the law MatrixReduced.
-/
import Derived.Test.YtamhdlkfhhpdpaaPlainAw
set_option linter.unusedVariables false
set_option linter.unusedSimpArgs false
set_option linter.unusedSectionVars false
namespace Go.Cw
namespace La
variable {K : Type} [Fi K]
theorem Span.left {A A' : Nat → Nat → K} {m : Nat} {v : Nat → K} (e : ∀ i j, i < m → A i j = A' i j) (h : Span A m v) : Span A' m v := by
  obtain ⟨c, rfl⟩ := h
  exact ⟨c, funext fun j => sm_congr fun i hi => by rw [e i j hi]⟩
end La
section
variable {f : Fld} (h : FOk f)
theorem kv_zeros (n j : Nat) : kv h (List.replicate n 0) j = 0 := by
  unfold kv
  rw [show (List.replicate n (0 : Int)).getD j 0 = 0 by simp only [List.getD]; rw [List.getElem?_replicate]; split <;> rfl]
  exact ke_zero h
theorem kv_combTo {x : List Int} {rows : List (List Int)} {cols : Int} (hr : ∀ l ∈ rows, l.length ≤ cols.toNat) (j : Nat) : ∀ n : Nat, kv h (combTo f x rows cols n) j = La.sm (fun i => kv h x i * km h rows i j) n
  | 0 => kv_zeros h _ j
  | n + 1 => by
    have ih := kv_combTo (x := x) hr j n
    show _ = La.sm (fun i => kv h x i * km h rows i j) n + kv h x n * km h rows n j
    rw [← ih, show combTo f x rows cols (n + 1) = (if ix 0 x n = 0 then combTo f x rows cols n else addTo f (combTo f x rows cols n) (ix 0 x n) (ix [] rows n)) from rfl]
    split
    · rename_i e
      rw [kv_ix h x, e, ke_zero, Fi.zero_mul, Fi.add_zero]
    · rw [kv_addTo h (by
        rw [length_combTo, ix_nat]
        by_cases hn : n < rows.length
        · exact hr _ (by rw [List.getD_eq_getElem?_getD, List.getElem?_eq_getElem hn]; exact List.getElem_mem hn)
        · simp only [List.getD]; rw [List.getElem?_eq_none (by omega)]; exact Nat.zero_le _), kv_ix h x, ix_nat [] rows]
      rfl
theorem kv_comb {x : List Int} {rows : List (List Int)} {cols : Int} (hr : ∀ l ∈ rows, l.length ≤ cols.toNat) (hx : rows.length ≤ x.length) : kv h (comb f x rows cols) = La.lin (kv h x) (km h rows) rows.length := by
  funext j
  unfold comb
  rw [kv_combTo h hr j, show min x.length rows.length = rows.length by omega]
  rfl
theorem combTo_out (hS : Shape f) (x : List Int) (rows : List (List Int)) (cols : Int) : ∀ n, ¬ outF f (combTo f x rows cols n)
  | 0 => notOut_zero hS _
  | n + 1 => by
    unfold combTo
    split
    · exact combTo_out hS x rows cols n
    · exact out_addTo hS (combTo_out hS x rows cols n) _ _
theorem comb_out (hS : Shape f) (x : List Int) (rows : List (List Int)) (cols : Int) : ¬ outF f (comb f x rows cols) := combTo_out hS x rows cols _
/-- Lists of elements are equal where their vectors are. -/
theorem kv_ext {a b : List Int} (ha : ¬ outF f a) (hb : ¬ outF f b) (hl : a.length = b.length) (e : ∀ j, j < a.length → kv h a j = kv h b j) : a = b := by
  refine ext_ix 0 hl fun j j0 j1 => ?_
  have qa := ix_ok h.1 ha j
  have qb := ix_ok h.1 hb j
  have := e j.toNat (by omega)
  rw [kv_ix, kv_ix, show ((j.toNat : Nat) : Int) = j by omega] at this
  exact ke_inj h qa.1 qa.2 qb.1 qb.2 this
theorem elim_span {w : Nat} {X : List (List Int)} (hX : good f w X) (n : Nat) : (∀ i, i < X.length → La.Span (km h X) X.length (km h (elim f X [] n).X i)) ∧ (∀ i, i < X.length → La.Span (km h (elim f X [] n).X) X.length (km h X i)) := by
  refine elim_ind h hX (wide_nil 0) (.inl rfl) (Φ := fun A _ => (∀ i, i < X.length → La.Span (km h X) X.length (A i)) ∧ (∀ i, i < X.length → La.Span A X.length (km h X i))) ?_ ?_ ?_ n
  · rintro A C A' C' e _ ⟨h1, h2⟩
    exact ⟨fun i hi => (h1 i hi).congr (fun j => e i j hi), fun i hi => (h2 i hi).left e⟩
  · rintro A C r k c hr hk hne ⟨h1, h2⟩
    obtain ⟨q1, q2⟩ := colA_span A A hr hk hne
    exact ⟨fun i hi => (q1 i hi).trans h1, fun i hi => (h2 i hi).trans q2⟩
  · exact ⟨fun i hi => La.Span.mem hi, fun i hi => La.Span.mem hi⟩
theorem pvN_ix (X Y : List (List Int)) (n : Nat) {i : Nat} (hi : i < (elim f X Y n).piv.length) : ((pvN (elim f X Y n).piv i : Nat) : Int) = ix 0 (elim f X Y n).piv i := by
  have := piv_ix f X Y n (i := (i : Int)) (by omega) (by omega)
  rw [ix_nat] at this ⊢
  unfold pvN
  omega
end
section
variable {f : Fld} {w n : Nat} {X : List (List Int)}
theorem piv_inc (h : FOk f) (hX : good f w X) {i j : Int} (i0 : 0 ≤ i) (ij : i < j) (j1 : j < (elim f X [] n).piv.length) : ix 0 (elim f X [] n).piv i < ix 0 (elim f X [] n).piv j := by
  have := (elim_rref h hX (wide_nil 0) (.inl rfl) n).inc i.toNat j.toNat (by omega) (by omega)
  have e1 := pvN_ix (f := f) X [] n (i := i.toNat) (by omega)
  have e2 := pvN_ix (f := f) X [] n (i := j.toNat) (by omega)
  rw [show ((i.toNat : Nat) : Int) = i by omega] at e1
  rw [show ((j.toNat : Nat) : Int) = j by omega] at e2
  omega
theorem can_ent (h : FOk f) (hX : good f w X) {i j : Int} (i0 : 0 ≤ i) (i1 : i < (elim f X [] n).piv.length) (j0 : 0 ≤ j) (j1 : j < X.length) : ix 0 (ix [] (elim f X [] n).X j) (ix 0 (elim f X [] n).piv i) = if j = i then 1 else 0 := by
  have rr := elim_rref h hX (wide_nil 0) (.inl rfl) n
  have hl := (length_elim f X [] n).1
  have hb := h.1.bd
  have e1 := pvN_ix (f := f) X [] n (i := i.toNat) (by omega)
  rw [show ((i.toNat : Nat) : Int) = i by omega] at e1
  have hr := good_ixlt h.1 (good_elim h.1 (Y := []) hX n) j0 (by omega) (ix 0 (elim f X [] n).piv i)
  refine ke_inj (h := h) hr.1 hr.2 (by split <;> omega) (by split <;> omega) ?_
  have := km_ix h (elim f X [] n).X j.toNat (pvN (elim f X [] n).piv i.toNat)
  rw [show ((j.toNat : Nat) : Int) = j by omega, e1] at this
  rw [← this]
  by_cases e : j = i
  · rw [if_pos e, ke_one, show j.toNat = i.toNat by omega]; exact rr.one _ (by omega)
  · rw [if_neg e, ke_zero]; exact rr.clr _ _ (by omega) (by omega) (by omega)
theorem can_lead (h : FOk f) (hX : good f w X) {i x : Int} (i0 : 0 ≤ i) (i1 : i < (elim f X [] n).piv.length) (x0 : 0 ≤ x) (x1 : x < ix 0 (elim f X [] n).piv i) : ix 0 (ix [] (elim f X [] n).X i) x = 0 := by
  have rr := elim_rref h hX (wide_nil 0) (.inl rfl) n
  have hl := (length_elim f X [] n).1
  have hpl := piv_le f X [] n
  have hb := h.1.bd
  have e1 := pvN_ix (f := f) X [] n (i := i.toNat) (by omega)
  rw [show ((i.toNat : Nat) : Int) = i by omega] at e1
  have hr := good_ixlt h.1 (good_elim h.1 (Y := []) hX n) i0 (by omega) x
  refine ke_inj (h := h) hr.1 hr.2 (by omega) (by omega) ?_
  have := km_ix h (elim f X [] n).X i.toNat x.toNat
  rw [show ((i.toNat : Nat) : Int) = i by omega, show ((x.toNat : Nat) : Int) = x by omega] at this
  rw [← this, ke_zero]
  exact rr.lead _ _ (by omega) (by omega)
theorem ix_canR {E : El} {i : Int} (i0 : 0 ≤ i) (i1 : i < E.piv.length) : ix [] (canR E) i = ix [] E.X i := by
  unfold canR
  simp only [ix, List.getD]
  rw [List.getElem?_take, if_pos (by omega)]
theorem km_canR (h : FOk f) {E : El} {i : Nat} (i1 : i < E.piv.length) : km h (canR E) i = km h E.X i := by
  unfold km canR
  simp only [List.getD]
  rw [List.getElem?_take, if_pos i1]
theorem ix_pickL {row set : List Int} {i : Int} (i0 : 0 ≤ i) (i1 : i < set.length) : ix 0 (pickL row set) i = ix 0 row (ix 0 set i) := by
  unfold pickL
  simp only [ix, List.getD, List.getElem?_map]
  rw [List.getElem?_eq_getElem (by omega)]
  rfl
@[simp] theorem length_pickL (row set : List Int) : (pickL row set).length = set.length := by simp [pickL]
/-- Each row is the combination of the canonical rows with its entries at the pivots. -/
theorem can_row (h : FOk f) (hX : good f n X) {row : List Int} (hm : row ∈ X) : comb f (pickL row (elim f X [] n).piv) (canR (elim f X [] n)) n = row := by
  have rr := elim_rref h hX (wide_nil 0) (.inl rfl) n
  have hsp := elim_span h hX n
  have hg := hX row hm
  have hlc := length_canR f X n
  have hgc := canR_good h.1 hX n
  obtain ⟨k, hk, hke⟩ := List.mem_iff_getElem.1 hm
  have hkm : km h X k = kv h row := by
    unfold km; simp only [List.getD]; rw [List.getElem?_eq_getElem hk, hke]; rfl
  refine kv_ext h (comb_out h.1 _ _ _) hg.2 (by rw [length_comb, hg.1]; omega) fun j hj => ?_
  rw [length_comb] at hj
  have hsv := hsp.2 k hk
  rw [hkm] at hsv
  rw [kv_comb h (fun l hl => by have := (hgc l hl).1; omega) (by simp; omega), rr.span hsv (by omega), hlc]
  refine La.sm_congr fun i hi => ?_
  rw [km_canR h hi, kv_ix, ix_pickL (by omega) (by omega), ← pvN_ix X [] n hi, ← kv_ix]
end
end Go.Cw
namespace Go.Cw
/-- What the law on reduced matrices asks of a canonical matrix. -/
structure CanF (f : Fld) (m : Mat) : Prop where
  cols : (canM f m).cols = m.cols
  len : (canM f m).rows.length = (canP f m).length
  le : (canP f m).length ≤ m.rows.length
  ok : mErr f (canM f m) = 0
  rng : ∀ i : Int, 0 ≤ i → i < (canP f m).length → 0 ≤ ix 0 (canP f m) i ∧ ix 0 (canP f m) i < m.cols
  inc : ∀ i j : Int, 0 ≤ i → i < j → j < (canP f m).length → ix 0 (canP f m) i < ix 0 (canP f m) j
  ent : ∀ i j : Int, 0 ≤ i → i < (canP f m).length → 0 ≤ j → j < (canP f m).length → ix 0 (ix [] (canM f m).rows j) (ix 0 (canP f m) i) = if j = i then 1 else 0
  lead : ∀ i x : Int, 0 ≤ i → i < (canP f m).length → 0 ≤ x → x < ix 0 (canP f m) i → ix 0 (ix [] (canM f m).rows i) x = 0
  row : ∀ row ∈ m.rows, comb f (pickL row (canP f m)) (canM f m).rows (canM f m).cols = row
  wid : ∀ i : Int, 0 ≤ i → i < (canM f m).rows.length → ((ix [] (canM f m).rows i).length : Int) = m.cols
theorem can_facts {f : Fld} {m : Mat} (hm : mErr f m = 0) : CanF f m := by
  have hF := (mErr_zero.1 hm).1
  have hme := (mErr_zero.1 hm).2
  have hsz := mat_size hme
  have hgm := mat_good hme
  have hl := length_canR f m.rows m.cols.toNat
  have hp := piv_le f m.rows [] m.cols.toNat
  have e1 : canM f m = ⟨m.cols, canR (elim f m.rows [] m.cols.toNat)⟩ := canM_ok hm
  have e2 : canP f m = (elim f m.rows [] m.cols.toNat).piv := canP_ok hm
  have hgc := canR_good hF.1 hgm m.cols.toNat
  have hc : ((m.cols.toNat : Nat) : Int) = m.cols := by omega
  have hw : ∀ i : Int, 0 ≤ i → i < (canR (elim f m.rows [] m.cols.toNat)).length → ((ix [] (canR (elim f m.rows [] m.cols.toNat)) i).length : Int) = m.cols := fun i i0 i1 => by
    have := wide_ix (good_wide hgc) i0 i1
    omega
  constructor <;> (try rw [e1]) <;> (try rw [e2])
  · exact hl
  · omega
  · exact mErr_zero.2 ⟨hF, good_mat hsz.1 hsz.2.1 (by show (canR (elim f m.rows [] m.cols.toNat)).length ≤ 256; omega) hgc⟩
  · intro i i0 i1
    have := piv_ix f m.rows [] m.cols.toNat i0 i1
    omega
  · exact fun i j => piv_inc hF hgm
  · intro i j i0 i1 j0 j1
    rw [show (Mat.mk m.cols (canR (elim f m.rows [] m.cols.toNat))).rows = canR (elim f m.rows [] m.cols.toNat) from rfl, ix_canR j0 j1]
    exact can_ent hF hgm i0 i1 j0 (by omega)
  · intro i x i0 i1 x0 x1
    rw [show (Mat.mk m.cols (canR (elim f m.rows [] m.cols.toNat))).rows = canR (elim f m.rows [] m.cols.toNat) from rfl, ix_canR i0 i1]
    exact can_lead hF hgm i0 i1 x0 x1
  · intro row hr
    have := can_row hF hgm hr
    rw [hc] at this
    exact this
  · exact hw
end Go.Cw
namespace Go.Cw
theorem mem_ix {α : Type} (d : α) {l : List α} {x : α} (h : x ∈ l) : ∃ z : Int, 0 ≤ z ∧ z < l.length ∧ x = ix d l z := by
  obtain ⟨k, hk, e⟩ := List.mem_iff_getElem.1 h
  refine ⟨k, by omega, by omega, ?_⟩
  rw [ix_nat, List.getD_eq_getElem?_getD, List.getElem?_eq_getElem hk]
  exact e.symm
end Go.Cw

