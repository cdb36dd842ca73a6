/-
  Facts for the law MatrixInverse.
-/
import Derived.Test.YtamhdlkfhhpdpaaPlainIn
set_option linter.unusedVariables false
set_option linter.unusedSimpArgs false
set_option linter.unusedSectionVars false
namespace Go.Cw
/-- The rows behind the first, without column c. -/
def minorL (rows : List (List Int)) (c : Int) : List (List Int) := (rows.drop 1).map fun row => row.take c.toNat ++ row.drop (c + 1).toNat
def detTerm (f : Fld) (D : List (List Int) → Int) (rows : List (List Int)) (c : Int) : Int :=
  if c % 2 = 1 then negF f (mulF f (ix 0 (ix [] rows 0) c) (D (minorL rows c))) else mulF f (ix 0 (ix [] rows 0) c) (D (minorL rows c))
def detSum (f : Fld) (D : List (List Int) → Int) (rows : List (List Int)) : Nat → Int
  | 0 => 0
  | c + 1 => if ix 0 (ix [] rows 0) c = 0 then detSum f D rows c else addF f (detSum f D rows c) (detTerm f D rows c)
def detR (f : Fld) : Nat → List (List Int) → Int
  | 0, _ => 1
  | n + 1, rows => detSum f (detR f n) rows rows.length
theorem detSum_skip {f : Fld} {D : List (List Int) → Int} {rows : List (List Int)} {c : Int} (c0 : 0 ≤ c) (h : ix 0 (ix [] rows 0) c = 0) : detSum f D rows (c + 1).toNat = detSum f D rows c.toNat := by
  rw [show (c + 1).toNat = c.toNat + 1 by omega, detSum, show ((c.toNat : Nat) : Int) = c by omega, if_pos h]
theorem detSum_odd {f : Fld} {D : List (List Int) → Int} {rows : List (List Int)} {c : Int} (c0 : 0 ≤ c) (h : ¬ ix 0 (ix [] rows 0) c = 0) (h2 : c % 2 = 1) : detSum f D rows (c + 1).toNat = addF f (detSum f D rows c.toNat) (negF f (mulF f (ix 0 (ix [] rows 0) c) (D (minorL rows c)))) := by
  rw [show (c + 1).toNat = c.toNat + 1 by omega, detSum, show ((c.toNat : Nat) : Int) = c by omega, if_neg h, detTerm, if_pos h2]
theorem detSum_even {f : Fld} {D : List (List Int) → Int} {rows : List (List Int)} {c : Int} (c0 : 0 ≤ c) (h : ¬ ix 0 (ix [] rows 0) c = 0) (h2 : ¬ c % 2 = 1) : detSum f D rows (c + 1).toNat = addF f (detSum f D rows c.toNat) (mulF f (ix 0 (ix [] rows 0) c) (D (minorL rows c))) := by
  rw [show (c + 1).toNat = c.toNat + 1 by omega, detSum, show ((c.toNat : Nat) : Int) = c by omega, if_neg h, detTerm, if_neg h2]
@[simp] theorem length_minorL (rows : List (List Int)) (c : Int) : (minorL rows c).length = rows.length - 1 := by simp [minorL]
theorem ix_minorL {rows : List (List Int)} {c i : Int} (i0 : 0 ≤ i) (i1 : i + 1 < rows.length) : ix [] (minorL rows c) i = (ix [] rows (i + 1)).take c.toNat ++ (ix [] rows (i + 1)).drop (c + 1).toNat := by
  unfold minorL
  rw [ix_map _ (rows.drop 1) [] [] i0 (by rw [List.length_drop]; omega)]
  have e : ix [] (rows.drop 1) i = ix [] rows (i + 1) := by
    simp only [ix, List.getD]; rw [List.getElem?_drop, show 1 + i.toNat = (i + 1).toNat by omega]
  rw [e]
theorem minor_wide {n : Nat} {rows : List (List Int)} (hw : wide (n + 1) rows) {c : Int} (c0 : 0 ≤ c) (c1 : c < n + 1) : wide n (minorL rows c) := fun l hl => by
  unfold minorL at hl
  obtain ⟨row, hr, rfl⟩ := List.mem_map.1 hl
  have := hw row (List.mem_of_mem_drop hr)
  rw [List.length_append, List.length_take, List.length_drop]; omega
section
variable {f : Fld} (h : FOk f)
theorem km_minor {n : Nat} {rows : List (List Int)} (hw : wide (n + 1) rows) {c i j : Nat} (hc : c < n + 1) (hi : i + 1 < rows.length) (hj : j < n) : km h (minorL rows c) i j = km h rows (i + 1) (La.sk c j) := by
  rw [km_ix, km_ix, ix_minorL (by omega) (by omega)]
  have hl := hw _ (ix_mem' (show (0 : Int) ≤ (i : Int) + 1 by omega) (show (i : Int) + 1 < rows.length by omega))
  have ht : (List.take ((c : Int)).toNat (ix [] rows ((i : Int) + 1))).length = c := by rw [List.length_take]; omega
  congr 1
  unfold La.sk
  by_cases e : j < c
  · rw [if_pos e, ix_appl (by omega) (by omega), ix_take _ (by omega) (by omega)]; congr 1
  · rw [if_neg e, ix_appr (by omega), ht]
    simp only [ix, List.getD]
    rw [List.getElem?_drop, show ((c : Int) + 1).toNat + ((j : Int) - c).toNat = ((j + 1 : Nat) : Int).toNat by omega]
    rfl
theorem ke_detR : ∀ (n : Nat) (rows : List (List Int)), rows.length = n → wide n rows → ke h (detR f n rows) = La.det n (km h rows)
  | 0, _, _, _ => ke_one h
  | n + 1, rows, hl, hw => by
    have key : ∀ c : Nat, c ≤ n + 1 → ke h (detSum f (detR f n) rows c) = La.sm (fun c => La.sg c * (km h rows 0 c * La.det n (fun i j => km h rows (i + 1) (La.sk c j)))) c := by
      intro c
      induction c with
      | zero => exact fun _ => ke_zero h
      | succ c ih =>
        intro hc
        have ih := ih (by omega)
        show _ = La.sm _ c + La.sg c * (km h rows 0 c * La.det n (fun i j => km h rows (i + 1) (La.sk c j)))
        have hm := minor_wide hw (c := (c : Int)) (by omega) (by omega)
        have hd := ke_detR n (minorL rows c) (by rw [length_minorL]; omega) hm
        have hdd : La.det n (km h (minorL rows c)) = La.det n (fun i j => km h rows (i + 1) (La.sk c j)) := La.det_congr fun i j hi hj => km_minor h hw hc (by omega) hj
        rw [hdd] at hd
        have h0 : km h rows 0 c = ke h (ix 0 (ix [] rows 0) c) := km_ix h rows 0 c
        rw [detSum]
        by_cases e : ix 0 (ix [] rows 0) c = 0
        · rw [if_pos e, ih, h0, e, ke_zero, Fi.zero_mul, Fi.mul_zero, Fi.add_zero]
        · rw [if_neg e, ke_add, ih, ← hd, h0]
          congr 1
          unfold detTerm La.sg
          by_cases e2 : c % 2 = 1
          · rw [if_pos (by omega), if_pos e2, ke_neg, ke_mul, Fi.neg_mul, Fi.one_mul]
          · rw [if_neg (by omega), if_neg e2, ke_mul, Fi.one_mul]
    show ke h (detSum f (detR f n) rows rows.length) = _
    rw [hl, key (n + 1) (Nat.le_refl _), La.det_succ]
end
theorem detSum_lt {f : Fld} (hS : Shape f) (D : List (List Int) → Int) (rows : List (List Int)) : ∀ c, 0 ≤ detSum f D rows c ∧ detSum f D rows c < f.q
  | 0 => by have := hS.bd; exact ⟨by show (0 : Int) ≤ 0; omega, by show (0 : Int) < f.q; omega⟩
  | c + 1 => by
    rw [detSum]
    split
    · exact detSum_lt hS D rows c
    · exact hS.addF_lt _ _
theorem detR_lt {f : Fld} (hS : Shape f) : ∀ (n : Nat) (rows : List (List Int)), 0 ≤ detR f n rows ∧ detR f n rows < f.q
  | 0, _ => by have := hS.bd; exact ⟨by show (0 : Int) ≤ 1; omega, by show (1 : Int) < f.q; omega⟩
  | n + 1, rows => detSum_lt hS _ _ _
/-- The program's determinant is the reference's. -/
theorem detV_detR {f : Fld} {m : Mat} (hq : sqErr f m = 0) : detV f m = detR f m.rows.length m.rows := by
  obtain ⟨hm, hsq⟩ := sqErr_zero.1 hq
  obtain ⟨hF, hme⟩ := mErr_zero.1 hm
  have a := detV_lt hF.1 m
  have b := detR_lt hF.1 m.rows.length m.rows
  refine ke_inj hF a.1 a.2 b.1 b.2 ?_
  have hw := good_wide (mat_good hme)
  rw [show m.cols.toNat = m.rows.length by omega] at hw
  rw [ke_detV hF hq, ke_detR hF _ _ rfl hw]
theorem detR_pos {f : Fld} {n : Nat} (hn : n ≠ 0) (X : List (List Int)) : detR f n X = detSum f (detR f (n - 1)) X X.length := by
  match n, hn with
  | n + 1, _ => rfl
theorem minor_wid {n : Nat} (hn : n ≠ 0) {X : List (List Int)} (hw : wide n X) {c : Int} (c0 : 0 ≤ c) (c1 : c < n) : wide (n - 1) (minorL X c) := by
  match n, hn with
  | n + 1, _ => exact minor_wide hw c0 (by omega)
theorem minor_succ {X : List (List Int)} {c i : Int} (i0 : 1 ≤ i) (i1 : i < X.length) : (minorL X c).take (i + 1 - 1).toNat = (minorL X c).take (i - 1).toNat ++ [(ix [] X i).take c.toNat ++ (ix [] X i).drop (c + 1).toNat] := by
  have := take_succ_ix [] (minorL X c) (i := i - 1) (by omega) (by rw [length_minorL]; omega)
  rw [ix_minorL (by omega) (by omega), show i - 1 + 1 = i by omega] at this
  rw [show (i + 1 - 1).toNat = i.toNat by omega]
  exact this
theorem canP_tra {f : Fld} {m : Mat} (hm : mErr f m = 0) : (canP f m).length = (traX f m).piv.length := by
  rw [canP_len hm]; exact congrArg List.length (elim_fst f m.rows [] (uni m.rows.length) m.cols.toNat).2.1
theorem inv_tra {f : Fld} {m : Mat} (hi : invE f m = 0) (hm : mErr f m = 0) (hsq : (m.rows.length : Int) = m.cols) : invM f m = traT f m := by rw [invM_ok hi, traT_ok hm, hsq]
theorem detV_zero {f : Fld} {m : Mat} (hq : sqErr f m = 0) (hi : invE f m ≠ 0) : detV f m = 0 := by
  obtain ⟨hm, hsq⟩ := sqErr_zero.1 hq
  refine detV_rank hq ?_
  refine Classical.byContradiction fun hn => hi (invE_ok hq ?_)
  have := canP_tra hm
  rw [canP_ok hm] at this
  rw [← this]; exact hn
end Go.Cw

