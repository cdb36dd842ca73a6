/-
  Facts for the law MatrixInverse.
-/
import Derived.Test.YtamhdlkfhhpdpaaPlainDv
import Derived.Test.YtamhdlkfhhpdpaaPlainTr
set_option linter.unusedVariables false
set_option linter.unusedSimpArgs false
set_option linter.unusedSectionVars false
namespace Go.Cw
theorem traT_ok {f : Fld} {m : Mat} (h : mErr f m = 0) : traT f m = ⟨m.rows.length, (traX f m).Y⟩ := if_pos h
theorem traT_no {f : Fld} {m : Mat} (h : mErr f m ≠ 0) : traT f m = Mat.no := if_neg h
theorem traR_ok {f : Fld} {m : Mat} (h : mErr f m = 0) : traR f m = ⟨m.cols, (traX f m).X⟩ := if_pos h
theorem traR_no {f : Fld} {m : Mat} (h : mErr f m ≠ 0) : traR f m = Mat.no := if_neg h
theorem good_uni {f : Fld} (hS : Shape f) (n : Int) : good f n.toNat (uni n) := fun l hl => by
  refine ⟨wide_uni n l hl, ?_⟩
  have hb := hS.bd
  unfold uni mkM at hl
  obtain ⟨v, v0, v1, rfl⟩ := mem_mapR hl
  refine outF_mapR fun i _ _ => ?_
  show 0 ≤ (if v = i then (1 : Int) else 0) ∧ (if v = i then (1 : Int) else 0) < f.q
  split
  · exact ⟨by omega, by omega⟩
  · exact ⟨by omega, by omega⟩
section
variable {f : Fld} {m : Mat} (hm : mErr f m = 0)
include hm
theorem tra_good : good f (m.cols.toNat + m.rows.length) (zipR m.rows (uni m.rows.length)) := fun l hl => by
  obtain ⟨hF, hme⟩ := mErr_zero.1 hm
  unfold zipR at hl
  obtain ⟨i, i0, i1, rfl⟩ := mem_mapR hl
  have a := mat_good hme _ (ix_mem' i0 i1)
  have b := good_uni hF.1 (m.rows.length : Int) _ (ix_mem' i0 (show i < (uni m.rows.length).length by rw [length_uni]; omega))
  exact ⟨by rw [List.length_append, a.1, b.1]; omega, notOut_app a.2 b.2⟩
theorem tra_zip : (elim f (zipR m.rows (uni m.rows.length)) [] m.cols.toNat).X = zipR (traX f m).X (traX f m).Y := by
  obtain ⟨hF, hme⟩ := mErr_zero.1 hm
  exact (elim_zip hF.1 (mat_good hme) (wide_uni _) (by rw [length_uni]; omega) m.cols.toNat (Nat.le_refl _)).1
theorem tra_len : (traX f m).X.length = m.rows.length ∧ (traX f m).Y.length = m.rows.length := by
  have := length_elim f m.rows (uni m.rows.length) m.cols.toNat
  have h2 := length_uni (m.rows.length : Int)
  exact ⟨this.1, by show (elim f m.rows (uni m.rows.length) m.cols.toNat).Y.length = _; omega⟩
theorem tra_X : good f m.cols.toNat (traX f m).X := good_elim (mErr_zero.1 hm).1.1 (mat_good (mErr_zero.1 hm).2) _
theorem tra_row {i : Int} (i0 : 0 ≤ i) (i1 : i < m.rows.length) : ix [] (elim f (zipR m.rows (uni m.rows.length)) [] m.cols.toNat).X i = ix [] (traX f m).X i ++ ix [] (traX f m).Y i := by
  rw [tra_zip hm, ix_zipR i0 (by have := tra_len hm; omega)]
theorem tra_take {i : Int} (i0 : 0 ≤ i) (i1 : i < m.rows.length) : List.take m.cols.toNat (ix [] (elim f (zipR m.rows (uni m.rows.length)) [] m.cols.toNat).X i) = ix [] (traX f m).X i := by
  rw [tra_row hm i0 i1, ← (tra_X hm _ (ix_mem' i0 (by have := tra_len hm; omega))).1, List.take_left']
  rfl
theorem tra_drop {i : Int} (i0 : 0 ≤ i) (i1 : i < m.rows.length) : List.drop m.cols.toNat (ix [] (elim f (zipR m.rows (uni m.rows.length)) [] m.cols.toNat).X i) = ix [] (traX f m).Y i := by
  rw [tra_row hm i0 i1, ← (tra_X hm _ (ix_mem' i0 (by have := tra_len hm; omega))).1, List.drop_left']
  rfl
theorem tra_wid {i : Int} (i0 : 0 ≤ i) (i1 : i < m.rows.length) : (ix [] (elim f (zipR m.rows (uni m.rows.length)) [] m.cols.toNat).X i).length = m.cols.toNat + m.rows.length :=
  (good_elim (mErr_zero.1 hm).1.1 (tra_good hm) _ _ (ix_mem' i0 (by rw [(length_elim _ _ _ _).1, length_zipR]; exact i1))).1
theorem tra_Y : good f m.rows.length (traX f m).Y := fun l hl => by
  obtain ⟨z, z0, z1, rfl⟩ := mem_ix [] hl
  have tl := tra_len hm
  have g := good_elim (mErr_zero.1 hm).1.1 (Y := []) (tra_good hm) m.cols.toNat _ (ix_mem' z0 (by rw [(length_elim _ _ _ _).1, length_zipR]; omega))
  have r := tra_row hm z0 (by omega)
  have w := tra_X hm _ (ix_mem' z0 (show z < (traX f m).X.length by omega))
  rw [r] at g
  rw [List.length_append] at g
  exact ⟨by omega, fun ⟨x, hx, hb⟩ => g.2 ⟨x, List.mem_append_right _ hx, hb⟩⟩
end
namespace La
variable {K : Type} [Fi K]
/-- A column of an elimination keeps that one matrix is another times a third. -/
theorem colA_mul {A C M : Nat → Nat → K} {n r k c : Nat} (hr : r < n) (hk : k < n) (h : ∀ i, i < n → ∀ j, A i j = sm (fun l => C i l * M l j) n) : ∀ i, i < n → ∀ j, colA A A r k c i j = sm (fun l => colA A C r k c i l * M l j) n := by
  intro i hi j
  have e : ∀ (x : K) (i : Nat), sm (fun l => x * C i l * M l j) n = x * sm (fun l => C i l * M l j) n := fun x i => by
    rw [← sm_mul]; exact sm_congr fun l _ => Fi.mul_assoc _ _ _
  by_cases e1 : i = r
  · have : sm (fun l => colA A C r k c i l * M l j) n = sm (fun l => Fi.inv (A k c) * C k l * M l j) n := sm_congr fun l _ => by subst e1; rw [colA_p]
    rw [this, e, ← h k hk j]; subst e1; rw [colA_p]
  · have key : ∀ (i' : Nat) (y : K), i' < n → sm (fun l => (C i' l + y * (Fi.inv (A k c) * C k l)) * M l j) n = A i' j + y * (Fi.inv (A k c) * A k j) := fun i' y hi' => by
      rw [sm_congr (h := fun l => C i' l * M l j + y * Fi.inv (A k c) * C k l * M l j) fun l _ => by rw [Fi.add_mul, ← Fi.mul_assoc y], sm_add, e, ← h i' hi' j, ← h k hk j, Fi.mul_assoc]
    by_cases e2 : i = k
    · have l1 : ∀ l, colA A C r k c i l = C r l + -(A r c) * (Fi.inv (A k c) * C k l) := fun l => by unfold colA; rw [if_neg e1, if_pos e2, if_pos e2]
      have l2 : colA A A r k c i j = A r j + -(A r c) * (Fi.inv (A k c) * A k j) := by unfold colA; rw [if_neg e1, if_pos e2, if_pos e2]
      rw [l2, sm_congr (h := fun l => (C r l + -(A r c) * (Fi.inv (A k c) * C k l)) * M l j) fun l _ => by rw [l1], key r _ hr]
    · have l1 : ∀ l, colA A C r k c i l = C i l + -(A i c) * (Fi.inv (A k c) * C k l) := fun l => by unfold colA; rw [if_neg e1, if_neg e2, if_neg e2]
      have l2 : colA A A r k c i j = A i j + -(A i c) * (Fi.inv (A k c) * A k j) := by unfold colA; rw [if_neg e1, if_neg e2, if_neg e2]
      rw [l2, sm_congr (h := fun l => (C i l + -(A i c) * (Fi.inv (A k c) * C k l)) * M l j) fun l _ => by rw [l1], key i _ hi]
end La
section
variable {f : Fld} (h : FOk f)
theorem km_uni {n : Nat} {i j : Nat} (hi : i < n) (hj : j < n) : km h (uni n) i j = La.idm i j := by
  have hb := h.1.bd
  rw [km_ix]
  unfold uni
  rw [ix_mkM _ (by omega) (by omega), ix_mapR 0 _ (by omega) (by omega)]
  unfold La.idm
  by_cases e : i = j
  · rw [if_pos (by omega), if_pos e, ke_one]
  · rw [if_neg (by omega), if_neg e, ke_zero]
variable {m : Mat}
/-- The recorded matrix times the matrix is the reduced one. -/
theorem tra_prod (hm : mErr f m = 0) : ∀ i, i < m.rows.length → ∀ j, km h (traX f m).X i j = La.sm (fun l => km h (traX f m).Y i l * km h m.rows l j) m.rows.length := by
  have hg := mat_good (mErr_zero.1 hm).2
  refine elim_ind h hg (wide_uni _) (.inr (by rw [length_uni]; omega)) (Φ := fun A C => ∀ i, i < m.rows.length → ∀ j, A i j = La.sm (fun l => C i l * km h m.rows l j) m.rows.length) ?_ ?_ ?_ m.cols.toNat
  · intro A C A' C' h1 h2 h3 i hi j
    rw [← h1 i j hi, h3 i hi j]
    exact La.sm_congr fun l _ => by rw [h2 i l hi]
  · intro A C r k c hr hk _ h3
    exact La.colA_mul (by omega) hk h3
  · intro i hi j
    rw [La.sm_one (k := i) hi fun l hl hne => by
      rw [km_uni h hi hl]; unfold La.idm; rw [if_neg (Ne.symm hne), Fi.zero_mul]]
    rw [km_uni h hi hi]; unfold La.idm; rw [if_pos rfl, Fi.one_mul]
/-- The rows of the unit matrix are combinations of the recorded ones. -/
theorem tra_inv (hm : mErr f m = 0) : ∀ i, i < m.rows.length → ∃ c : Nat → KF f h, ∀ j, j < m.rows.length → La.idm i j = La.sm (fun k => c k * km h (traX f m).Y k j) m.rows.length := by
  have hg := mat_good (mErr_zero.1 hm).2
  have key : ∀ i, i < m.rows.length → La.Span (km h (traX f m).Y) m.rows.length (km h (uni m.rows.length) i) := by
    refine elim_ind h hg (wide_uni _) (.inr (by rw [length_uni]; omega)) (Φ := fun _ C => ∀ i, i < m.rows.length → La.Span C m.rows.length (km h (uni m.rows.length) i)) ?_ ?_ ?_ m.cols.toNat
    · intro A C A' C' _ h2 h3 i hi
      obtain ⟨c, e⟩ := h3 i hi
      exact ⟨c, by rw [e]; funext j; exact La.sm_congr fun l hl => by rw [h2 l j hl]⟩
    · intro A C r k c hr hk hne h3 i hi
      exact (h3 i hi).trans (colA_span A C hr hk hne).2
    · exact fun i hi => La.Span.mem hi
  intro i hi
  obtain ⟨c, e⟩ := key i hi
  exact ⟨c, fun j hj => by rw [← km_uni h hi hj]; exact congrFun e j⟩
end
/-- What the law on recorded eliminations asks. -/
structure TraG (f : Fld) (m : Mat) : Prop where
  t : mErr f (traT f m) = 0
  p : mulE f (traT f m) m = 0
  pr : mulV f (traT f m) m = traR f m
  k : invE f (traT f m) = 0
theorem tra_facts {f : Fld} {m : Mat} (hm : mErr f m = 0) : TraG f m := by
  obtain ⟨hF, hme⟩ := mErr_zero.1 hm
  have sm := mat_size hme
  have tl := tra_len hm
  have eT := traT_ok hm
  have gY := tra_Y hm
  have hT : mErr f ⟨m.rows.length, (traX f m).Y⟩ = 0 := mErr_zero.2 ⟨hF, good_mat (by show (0 : Int) ≤ m.rows.length; omega) (by show (m.rows.length : Int) ≤ 256; omega) (by show (traX f m).Y.length ≤ 256; omega) (by show good f ((m.rows.length : Int)).toNat _; exact gY)⟩
  have p : mulE f (traT f m) m = 0 := by rw [eT]; exact mulE_in hT hm rfl
  refine ⟨by rw [eT]; exact hT, p, ?_, ?_⟩
  · rw [mulV_ok p, eT, traR_ok hm]
    have e : (mulM f ⟨m.rows.length, (traX f m).Y⟩ m).rows = (traX f m).X := by
      refine mat_ext hF (n := m.cols.toNat) (mul_good hF _ _ rfl) (tra_X hm) (by rw [length_mulM]; exact tl.2.trans tl.1.symm) fun i j hi _ => ?_
      rw [length_mulM] at hi
      have hi2 : i < (traX f m).Y.length := hi
      have hi' : i < m.rows.length := by omega
      rw [km_mulE hF (mErr_zero.1 hT).2 hme rfl (by show i < (traX f m).Y.length; omega), tra_prod hF hm i hi']
    show Mat.mk m.cols (mulM f ⟨m.rows.length, (traX f m).Y⟩ m).rows = _
    rw [e]
  · rw [eT]
    have q : sqErr f ⟨m.rows.length, (traX f m).Y⟩ = 0 := sqErr_zero.2 ⟨hT, by show ((traX f m).Y.length : Int) = m.rows.length; omega⟩
    refine invE_ok q ?_
    have e1 := (elim_fst f (traX f m).Y (uni (traX f m).Y.length) [] m.rows.length).2.1
    have hr := elim_rref hF gY (wide_nil 0) (.inl rfl) m.rows.length
    have hs := elim_span hF gY m.rows.length
    rw [tl.2] at hr
    show ¬ ((elim f (traX f m).Y (uni (traX f m).Y.length) ((m.rows.length : Int)).toNat).piv.length : Int) < m.rows.length
    rw [show ((m.rows.length : Int)).toNat = m.rows.length by omega, e1]
    have := La.indep_le (A := km hF (elim f (traX f m).Y [] m.rows.length).X) (B := La.idm) (k := m.rows.length) (r := (elim f (traX f m).Y [] m.rows.length).piv.length) (q := id) (fun i j hi hj => by show La.idm i j = _; unfold La.idm; by_cases e : i = j; (rw [if_pos e, if_pos e.symm]); (rw [if_neg e, if_neg (Ne.symm e)])) (fun i hi => by
      obtain ⟨c, hc⟩ := tra_inv hF hm i hi
      have hv : La.Span (km hF (elim f (traX f m).Y [] m.rows.length).X) m.rows.length (La.lin c (km hF (traX f m).Y) m.rows.length) := La.Span.trans ⟨c, rfl⟩ (fun k hk => by have := hs.2 k (by omega); rw [tl.2] at this; exact this)
      exact ⟨_, ⟨_, rfl⟩, fun j hj => by show La.idm i j = _; rw [hc j hj]; exact hr.span hv hj⟩)
    omega
/-- What the law on inverses asks. -/
structure InvG (f : Fld) (m : Mat) : Prop where
  eT : invM f m = ⟨m.cols, (traX f m).Y⟩
  t : mErr f (invM f m) = 0
  x : mulE f (invM f m) m = 0
  y : mulE f m (invM f m) = 0
  xr : (mulV f (invM f m) m).rows = uni m.cols
  yr : (mulV f m (invM f m)).rows = uni m.cols
  d : detV f m ≠ 0
theorem inv_facts {f : Fld} {m : Mat} (hi : invE f m = 0) : InvG f m := by
  have hq : sqErr f m = 0 := by
    unfold invE at hi
    split at hi
    · rename_i h; exact h
    · rename_i h; exact absurd hi h
  obtain ⟨hm, hsq⟩ := sqErr_zero.1 hq
  obtain ⟨hF, hme⟩ := mErr_zero.1 hm
  have sm := mat_size hme
  have tl := tra_len hm
  have T := tra_facts hm
  have eM : invM f m = traT f m := by rw [invM_ok hi, traT_ok hm, hsq]
  have hrk : ¬ ((traX f m).piv.length : Int) < m.cols := fun hlt => by
    rw [invE_rank hq hlt] at hi; exact absurd hi (by decide)
  have hpl := piv_le f m.rows (uni m.rows.length) m.cols.toNat
  have en : m.cols.toNat = m.rows.length := by omega
  have hpn : (traX f m).piv.length = m.rows.length := by
    have : (traX f m).piv.length ≤ m.rows.length := hpl.1
    omega
  have hr : La.Rref (km hF (traX f m).X) m.rows.length m.cols.toNat (pvN (traX f m).piv) (traX f m).piv.length := elim_rref hF (mat_good hme) (wide_uni _) (.inr (by rw [length_uni]; omega)) m.cols.toNat
  rw [en, hpn] at hr
  have hI := hr.full.2
  have gu : good f m.cols.toNat (uni m.cols) := good_uni hF.1 m.cols
  have lu := length_uni m.cols
  have ku : ∀ i j, i < m.rows.length → j < m.rows.length → km hF (uni m.cols) i j = La.idm i j := fun i j h1 h2 => by
    have := km_uni hF h1 h2; rwa [hsq] at this
  have hXU : (traX f m).X = uni m.cols := mat_ext hF (tra_X hm) gu (by omega) fun i j h1 h2 => by
    rw [hI i j (by omega) (by omega), ku i j (by omega) (by omega)]
  have hT : mErr f (invM f m) = 0 := by rw [eM]; exact T.t
  have y : mulE f m (invM f m) = 0 := mulE_in hm hT (by rw [eM, traT_ok hm]; show m.cols = (traX f m).Y.length; omega)
  have hMY : ∀ i j, i < m.rows.length → j < m.rows.length → La.sm (fun l => km hF m.rows i l * km hF (traX f m).Y l j) m.rows.length = La.idm i j := by
    intro i j hi hj
    obtain ⟨c, hc⟩ := tra_inv hF hm i hi
    have hz : ∀ j, j < m.rows.length → km hF m.rows i j = c j := fun j hj => by
      have e1 : km hF m.rows i j = La.sm (fun l => La.idm i l * km hF m.rows l j) m.rows.length := by
        rw [La.sm_one (k := i) hi fun l _ hne => by unfold La.idm; rw [if_neg (Ne.symm hne), Fi.zero_mul]]
        unfold La.idm; rw [if_pos rfl, Fi.one_mul]
      rw [e1, La.sm_congr (h := fun l => La.sm (fun k => c k * km hF (traX f m).Y k l * km hF m.rows l j) m.rows.length) fun l hl => by rw [hc l hl, La.sm_mulR], La.sm_swap]
      rw [La.sm_congr (h := fun k => c k * La.idm k j) fun k hk => by
        rw [← hI k j hk hj, tra_prod hF hm k hk j, ← La.sm_mul]
        exact La.sm_congr fun l _ => Fi.mul_assoc _ _ _]
      rw [La.sm_one (k := j) hj fun k _ hne => by unfold La.idm; rw [if_neg hne, Fi.mul_zero]]
      unfold La.idm; rw [if_pos rfl, Fi.mul_one]
    rw [hc j hj]
    exact La.sm_congr fun l hl => by rw [hz l hl]
  have d : detV f m ≠ 0 := by
    intro hd
    have h1 := ke_detV hF hq
    rw [hd, ke_zero] at h1
    have h2 := La.det_mul La.rows_ex (n := m.rows.length) (km hF (traX f m).Y) (km hF m.rows)
    rw [← h1, Fi.mul_zero, La.det_congr (B := La.idm) (fun i j h3 h4 => by show La.sm _ _ = _; rw [← tra_prod hF hm i h3 j, hI i j h3 h4]), La.det_idm] at h2
    exact Fi.one_ne h2
  refine ⟨invM_ok hi, hT, by rw [eM]; exact T.p, y, ?_, ?_, d⟩
  · rw [eM, T.pr, traR_ok hm]; exact hXU
  · rw [mulV_ok y, eM, traT_ok hm]
    refine mat_ext hF (n := m.cols.toNat) (mul_good hF _ _ (by show ((m.rows.length : Int)).toNat = _; omega)) gu (by rw [length_mulM]; omega) fun i j h1 h2 => ?_
    rw [length_mulM] at h1
    have h3 := T.t
    rw [traT_ok hm] at h3
    rw [km_mulE hF hme (mErr_zero.1 h3).2 (by show m.cols = (traX f m).Y.length; omega) h1, ku i j h1 (by omega)]
    show La.sm _ (traX f m).Y.length = _
    rw [tl.2]
    exact hMY i j h1 (by omega)
end Go.Cw

