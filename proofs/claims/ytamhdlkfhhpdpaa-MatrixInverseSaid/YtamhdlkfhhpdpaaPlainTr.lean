/-
  Facts for the law MatrixInverse.
-/
import Derived.Test.YtamhdlkfhhpdpaaPlainSl
set_option linter.unusedVariables false
set_option linter.unusedSimpArgs false
set_option linter.unusedSectionVars false
namespace Go.Cw
/-- The rows, pivots and the determinant of an elimination do not hang on the other rows. -/
theorem elim_fst (f : Fld) (X Y Z : List (List Int)) : ∀ n, (elim f X Y n).X = (elim f X Z n).X ∧ (elim f X Y n).piv = (elim f X Z n).piv ∧ (elim f X Y n).det = (elim f X Z n).det
  | 0 => ⟨rfl, rfl, rfl⟩
  | n + 1 => by
    obtain ⟨h1, h2, h3⟩ := elim_fst f X Y Z n
    simp only [elim]
    generalize elim f X Y n = s at h1 h2 h3
    generalize elim f X Z n = t at h1 h2 h3
    cases s with | mk X1 Y1 p1 d1 =>
    cases t with | mk X2 Y2 p2 d2 =>
    simp only at h1 h2 h3
    subst h1 h2 h3
    simp only [col]
    split
    · split
      · simp only [colK, clr_fst, ph2, phx, ph1, true_and]
      · exact ⟨rfl, rfl, rfl⟩
    · exact ⟨rfl, rfl, rfl⟩
/-- Rows continued by other rows. -/
def zipR (X Y : List (List Int)) : List (List Int) := mapR (fun i => ix [] X i ++ ix [] Y i) X.length
@[simp] theorem length_zipR (X Y : List (List Int)) : (zipR X Y).length = X.length := by unfold zipR; rw [length_mapR]; omega
theorem ix_zipR {X Y : List (List Int)} {i : Int} (h0 : 0 ≤ i) (h1 : i < X.length) : ix [] (zipR X Y) i = ix [] X i ++ ix [] Y i := by unfold zipR; rw [ix_mapR [] _ h0 h1]
theorem ix_appl {a b : List Int} {j : Int} (h0 : 0 ≤ j) (h1 : j < a.length) : ix 0 (a ++ b) j = ix 0 a j := by
  simp only [ix, List.getD]; rw [List.getElem?_append_left (by omega)]
theorem ix_appr {a b : List Int} {j : Int} (h0 : a.length ≤ j) : ix 0 (a ++ b) j = ix 0 b (j - a.length) := by
  simp only [ix, List.getD]; rw [List.getElem?_append_right (by omega)]; congr 2; omega
theorem addTo_app (f : Fld) {a b c d : List Int} (x : Int) (h : a.length = c.length) : addTo f (a ++ b) x (c ++ d) = addTo f a x c ++ addTo f b x d := by
  refine ext_ix 0 (by simp) fun j j0 j1 => ?_
  have hl := length_addTo f (a ++ b) x (c ++ d)
  have ha := length_addTo f a x c
  have hb := length_addTo f b x d
  have hab : (a ++ b).length = a.length + b.length := List.length_append
  rw [ix_addTo f _ _ _ j0 (by omega)]
  by_cases e : j < a.length
  · rw [ix_appl j0 e, ix_appl j0 (by omega), ix_appl j0 (by omega), ix_addTo f _ _ _ j0 e]
  · rw [ix_appr (a := a) (by omega), ix_appr (a := c) (by omega), ix_appr (a := addTo f a x c) (by omega), ix_addTo f _ _ _ (by omega) (by omega), ha, h]
theorem scaleF_app (f : Fld) (x : Int) (a b : List Int) : scaleF f x (a ++ b) = scaleF f x a ++ scaleF f x b := by
  refine ext_ix 0 (by simp) fun j j0 j1 => ?_
  have hl := length_scaleF f x (a ++ b)
  have ha := length_scaleF f x a
  have hb := length_scaleF f x b
  have hab : (a ++ b).length = a.length + b.length := List.length_append
  rw [ix_scaleF f _ _ j0 (by omega)]
  by_cases e : j < a.length
  · rw [ix_appl j0 e, ix_appl j0 (by omega), ix_scaleF f _ _ j0 e]
  · rw [ix_appr (a := a) (by omega), ix_appr (a := scaleF f x a) (by omega), ix_scaleF f _ _ (by omega) (by omega), ha]
theorem zipR_set {X Y : List (List Int)} (h : Y.length = X.length) (i : Nat) (x y : List Int) : (zipR X Y).set i (x ++ y) = zipR (X.set i x) (Y.set i y) := by
  refine ext_ix [] (by simp) fun j j0 j1 => ?_
  have hl : (zipR X Y).length = X.length := length_zipR X Y
  have hs : ((zipR X Y).set i (x ++ y)).length = X.length := by rw [List.length_set]; exact hl
  have hxs : (X.set i x).length = X.length := List.length_set
  rw [ix_zipR j0 (by omega)]
  by_cases hi : i < X.length
  · have q : ((i : Int)).toNat = i := by omega
    have e1 := ix_setE [] (zipR X Y) (i := (i : Int)) (j := j) (x ++ y) (by omega) (by omega) j0
    have e2 := ix_setE [] X (i := (i : Int)) (j := j) x (by omega) (by omega) j0
    have e3 := ix_setE [] Y (i := (i : Int)) (j := j) y (by omega) (by omega) j0
    rw [q] at e1 e2 e3
    rw [e1, e2, e3]
    by_cases e : j = i
    · rw [if_pos e, if_pos e, if_pos e]
    · rw [if_neg e, if_neg e, if_neg e, ix_zipR j0 (by omega)]
  · rw [set_out (by omega), set_out hi, set_out (by omega), ix_zipR j0 (by omega)]
theorem zipR_swp {X Y : List (List Int)} (h : Y.length = X.length) {p k : Int} (p0 : 0 ≤ p) (p1 : p < X.length) (k0 : 0 ≤ k) (k1 : k < X.length) : swp [] (zipR X Y) p k = zipR (swp [] X p k) (swp [] Y p k) := by
  unfold swp
  rw [ix_zipR k0 k1, ix_zipR p0 p1, zipR_set h, zipR_set (by simpa using h)]
theorem clr_zip (f : Fld) {w wy : Nat} {c p : Int} {X Y : List (List Int)} (hX : wide w X) (hY : wide wy Y) (hl : Y.length = X.length) (c0 : 0 ≤ c) (c1 : c < w) (p0 : 0 ≤ p) (p1 : p < X.length) : ∀ n, n ≤ X.length →
    clrX f c p (zipR X Y) n = zipR (clr f c p X Y n).1 (clr f c p X Y n).2
  | 0, _ => rfl
  | n + 1, hn => by
    have ih := clr_zip f hX hY hl c0 c1 p0 p1 n (by omega)
    have hw := wide_clr1 (f := f) (c := c) (p := p) (Y := Y) hX n
    have hwy := wide_clr (f := f) (c := c) (p := p) (X := X) hY n
    have hln := length_clr f c p X Y n
    have e1 : clrX f c p (zipR X Y) (n + 1) = if (n : Int) ≠ p ∧ ix 0 (ix [] (clrX f c p (zipR X Y) n) n) c ≠ 0 then (clrX f c p (zipR X Y) n).set n (addTo f (ix [] (clrX f c p (zipR X Y) n) n) (negF f (ix 0 (ix [] (clrX f c p (zipR X Y) n) n) c)) (ix [] (clrX f c p (zipR X Y) n) p)) else clrX f c p (zipR X Y) n := by
      unfold clrX
      simp only [clr]
      split <;> rfl
    rw [e1, ih]
    simp only [clr]
    generalize clr f c p X Y n = AB at hw hwy hln
    obtain ⟨A, B⟩ := AB
    simp only at hw hwy hln ⊢
    have wn := wide_ix hw (i := (n : Int)) (by omega) (by omega)
    have wp := wide_ix hw p0 (by omega)
    rw [ix_zipR (by omega) (by omega), ix_zipR p0 (by omega), ix_appl c0 (by omega)]
    split
    · rw [addTo_app f _ (by omega), zipR_set (by omega)]
    · rfl
/-- One column, over continued rows. -/
theorem col_zip (f : Fld) {w wy : Nat} {c : Nat} {s t : El} (hX : wide w s.X) (hY : wide wy s.Y) (hl : s.Y.length = s.X.length) (c1 : c < w) (h1 : t.X = zipR s.X s.Y) (h2 : t.piv = s.piv) (h3 : t.det = s.det) :
    (col f c t).X = zipR (col f c s).X (col f c s).Y ∧ (col f c t).piv = (col f c s).piv ∧ (col f c t).det = (col f c s).det := by
  obtain ⟨X1, Y1, p1, d1⟩ := s
  obtain ⟨X2, Y2, p2, d2⟩ := t
  simp only at h1 h2 h3 hX hY hl
  subst h1 h2 h3
  simp only [col, length_zipR]
  by_cases hr : p2.length < X1.length
  · rw [if_pos hr, if_pos hr]
    obtain ⟨k, e, k1, k2, k3, k4⟩ := pivK_spec X1 c (p := p2.length) (by omega)
    have e' : pivK (zipR X1 Y1) c p2.length = k := by
      refine pivK_eq (by omega) (by omega) (by rw [length_zipR]; omega) (fun z z0 z1 => ?_) ?_
      · have wz := wide_ix hX (i := z) (by omega) (by omega)
        rw [ix_zipR (by omega) (by omega), ix_appl (by omega) (by omega)]
        have := k3 z.toNat (by omega) (by omega)
        rwa [show ((z.toNat : Nat) : Int) = z by omega] at this
      · by_cases hk : k < X1.length
        · right
          have wz := wide_ix hX (i := (k : Int)) (by omega) (by omega)
          rw [ix_zipR (by omega) (by omega), ix_appl (by omega) (by omega)]
          exact k4 hk
        · left; rw [length_zipR]; omega
    rw [e, e']
    by_cases hk : k < X1.length
    · rw [if_pos (by omega), if_pos (by omega)]
      -- exchange
      let s1 : El := ⟨X1, Y1, p2, d2⟩
      have hq1 : (if (k : Int) ≠ p2.length then swp [] (zipR X1 Y1) p2.length k else zipR X1 Y1) = zipR (ph1 s1 X1 k) (ph1 s1 Y1 k) := by
        unfold ph1
        show _ = zipR (if (k : Int) ≠ p2.length then swp [] X1 p2.length k else X1) (if (k : Int) ≠ p2.length then swp [] Y1 p2.length k else Y1)
        split
        · exact zipR_swp hl (by omega) (by omega) (by omega) (by omega)
        · rfl
      have w1 : wide w (ph1 s1 X1 k) := wide_ph1 (s := s1) hX (by omega) (by show (p2.length : Int) < _ ↔ _; omega)
      have v1 : wide wy (ph1 s1 Y1 k) := wide_ph1 (s := s1) hY (by omega) (by show (p2.length : Int) < _ ↔ _; omega)
      have l1 : (ph1 s1 X1 k).length = X1.length := length_ph1 _ _ _
      have m1 : (ph1 s1 Y1 k).length = Y1.length := length_ph1 _ _ _
      have wr := wide_ix w1 (i := (p2.length : Int)) (by omega) (by omega)
      have hx : ix 0 (ix [] (zipR (ph1 s1 X1 k) (ph1 s1 Y1 k)) p2.length) c = phx c s1 k := by
        rw [ix_zipR (by omega) (by omega), ix_appl (by omega) (by omega)]; rfl
      have hq2 : (if invF f (phx c s1 k) ≠ 1 then (zipR (ph1 s1 X1 k) (ph1 s1 Y1 k)).set p2.length (scaleF f (invF f (phx c s1 k)) (ix [] (zipR (ph1 s1 X1 k) (ph1 s1 Y1 k)) p2.length)) else zipR (ph1 s1 X1 k) (ph1 s1 Y1 k)) = zipR (ph2 f c s1 X1 k) (ph2 f c s1 Y1 k) := by
        unfold ph2
        split
        · rw [ix_zipR (by omega) (by omega), scaleF_app, zipR_set (by omega)]
        · rfl
      have w2 : wide w (ph2 f c s1 X1 k) := wide_ph2 (f := f) (c := c) (s := s1) hX (k := k) (by omega) (by show (p2.length : Int) < _ ↔ _; omega)
      have v2 : wide wy (ph2 f c s1 Y1 k) := wide_ph2 (f := f) (c := c) (s := s1) hY (k := k) (by omega) (by show (p2.length : Int) < _ ↔ _; omega)
      have l2 : (ph2 f c s1 X1 k).length = X1.length := length_ph2 _ _ _ _ _
      have m2 : (ph2 f c s1 Y1 k).length = Y1.length := length_ph2 _ _ _ _ _
      have hz := clr_zip f w2 v2 (by omega) (c := c) (p := (p2.length : Int)) (by omega) (by omega) (by omega) (by omega) X1.length (by omega)
      refine ⟨?_, rfl, ?_⟩
      · show (clr f c p2.length (ph2 f c ⟨zipR X1 Y1, Y2, p2, d2⟩ (zipR X1 Y1) k) _ (zipR X1 Y1).length).1 = _
        rw [clr_fst, length_zipR]
        have e2 : ph2 f c ⟨zipR X1 Y1, Y2, p2, d2⟩ (zipR X1 Y1) k = zipR (ph2 f c s1 X1 k) (ph2 f c s1 Y1 k) := by
          rw [← hq2]
          unfold ph2 phx ph1
          show (if invF f (ix 0 (ix [] (if (k : Int) ≠ p2.length then swp [] (zipR X1 Y1) p2.length k else zipR X1 Y1) p2.length) c) ≠ 1 then _ else _) = _
          rw [hq1, hx]
          rfl
        rw [e2, hz]
        rfl
      · show mulF f (if (k : Int) ≠ p2.length then negF f d2 else d2) (ix 0 (ix [] (if (k : Int) ≠ p2.length then swp [] (zipR X1 Y1) p2.length k else zipR X1 Y1) p2.length) c) = _
        rw [hq1, hx]
        rfl
    · rw [if_neg (by omega), if_neg (by omega)]
      exact ⟨rfl, rfl, rfl⟩
  · rw [if_neg hr, if_neg hr]
    exact ⟨rfl, rfl, rfl⟩
/-- The elimination of continued rows does the same to both parts. -/
theorem elim_zip {f : Fld} (hS : Shape f) {w wy : Nat} {X Y : List (List Int)} (hX : good f w X) (hY : wide wy Y) (hl : Y.length = X.length) : ∀ n, n ≤ w →
    (elim f (zipR X Y) [] n).X = zipR (elim f X Y n).X (elim f X Y n).Y ∧ (elim f (zipR X Y) [] n).piv = (elim f X Y n).piv ∧ (elim f (zipR X Y) [] n).det = (elim f X Y n).det
  | 0, _ => ⟨rfl, rfl, rfl⟩
  | n + 1, hn => by
    obtain ⟨h1, h2, h3⟩ := elim_zip hS hX hY hl n (by omega)
    have hle := length_elim f X Y n
    exact col_zip f (good_wide (good_elim hS (Y := Y) hX n)) (wide_elim (f := f) hY (.inr hl) n) (by omega) (by omega) h1 h2 h3
end Go.Cw

