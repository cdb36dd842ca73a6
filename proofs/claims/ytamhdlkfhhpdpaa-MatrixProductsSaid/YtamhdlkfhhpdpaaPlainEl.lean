/-
  Eliminations.
-/
import Derived.Test.YtamhdlkfhhpdpaaPlainI
set_option linter.unusedVariables false
set_option linter.unusedSimpArgs false
set_option linter.unusedSectionVars false
namespace Go.Cw
/-- Where the search for a row with an entry in column c ends. -/
def pivK (X : List (List Int)) (c p : Int) : Int := p + ((X.drop p.toNat).takeWhile fun row => decide (ix 0 row c = 0)).length
theorem pivK_eq {X : List (List Int)} {c p k : Int} (h0 : 0 ≤ p) (h1 : p ≤ k) (h2 : k ≤ X.length) (hz : ∀ z : Int, p ≤ z → z < k → ix 0 (ix [] X z) c = 0) (he : k = X.length ∨ ix 0 (ix [] X k) c ≠ 0) : pivK X c p = k := by
  have key : ∀ (n : Nat) (L : List (List Int)) (j : Int), (∀ z : Int, 0 ≤ z → z < j → ix 0 (ix [] L z) c = 0) → 0 ≤ j → j ≤ L.length → (j = L.length ∨ ix 0 (ix [] L j) c ≠ 0) → L.length = n →
      ((L.takeWhile fun row => decide (ix 0 row c = 0)).length : Int) = j := by
    intro n
    induction n with
    | zero =>
      intro L j hz j0 j1 _ hl
      have : L = [] := List.eq_nil_of_length_eq_zero hl
      subst this
      simp at j1 ⊢; omega
    | succ n ih =>
      intro L j hz j0 j1 he hl
      cases L with
      | nil => simp at hl
      | cons x L =>
        by_cases hj : j = 0
        · subst hj
          rcases he with he | he
          · simp at he; omega
          · have hx0 : ¬ ix 0 x c = 0 := by simpa [ix, List.getD] using he
            rw [List.takeWhile_cons_of_neg (by simp [hx0])]; simp
        · have hx : ix 0 x c = 0 := by have := hz 0 (by omega) (by omega); simpa [ix, List.getD] using this
          rw [List.takeWhile_cons_of_pos (by simp [hx])]
          have hsh : ∀ z : Int, 0 ≤ z → ix [] (x :: L) (z + 1) = ix [] L z := fun z z0 => by
            simp only [ix, List.getD]
            rw [show (z + 1).toNat = z.toNat + 1 by omega, List.getElem?_cons_succ]
          have := ih L (j - 1) (fun z z0 z1 => by rw [← hsh z z0]; exact hz (z + 1) (by omega) (by omega)) (by omega) (by simp at j1; omega)
            (by
              rcases he with he | he
              · left; simp at he; omega
              · right; rw [← hsh (j - 1) (by omega), show j - 1 + 1 = j by omega]; exact he) (by simpa using hl)
          simp only [List.length_cons]
          omega
  unfold pivK
  have hd : ∀ z : Int, 0 ≤ z → ix [] (X.drop p.toNat) z = ix [] X (p + z) := fun z z0 => by
    simp only [ix, List.getD, List.getElem?_drop]
    rw [show p.toNat + z.toNat = (p + z).toNat by omega]
  have := key _ (X.drop p.toNat) (k - p) (fun z z0 z1 => by rw [hd z z0]; exact hz _ (by omega) (by omega)) (by omega) (by rw [List.length_drop]; omega)
    (by
      rcases he with he | he
      · left; rw [List.length_drop]; omega
      · right; rw [hd _ (by omega), show p + (k - p) = k by omega]; exact he) rfl
  omega
def swp {α : Type} (d : α) (l : List α) (p k : Int) : List α := (l.set p.toNat (ix d l k)).set k.toNat (ix d l p)
@[simp] theorem length_swp {α : Type} (d : α) (l : List α) (p k : Int) : (swp d l p k).length = l.length := by simp [swp]
/-- The state of an elimination: rows, other rows, pivots, determinant of the steps. -/
structure El where
  X : List (List Int)
  Y : List (List Int)
  piv : List Int
  det : Int
/-- Clearing column c by row p, over the first n rows. -/
def clr (f : Fld) (c p : Int) (X Y : List (List Int)) : Nat → List (List Int) × List (List Int)
  | 0 => (X, Y)
  | n + 1 =>
    let (A, B) := clr f c p X Y n
    let x := ix 0 (ix [] A n) c
    if (n : Int) ≠ p ∧ x ≠ 0 then (A.set n (addTo f (ix [] A n) (negF f x) (ix [] A p)), B.set n (addTo f (ix [] B n) (negF f x) (ix [] B p))) else (A, B)
/-- The rows before column c is cleared: the row k in its place, multiplied. -/
def ph1 (s : El) (Z : List (List Int)) (k : Int) : List (List Int) := if k ≠ s.piv.length then swp [] Z s.piv.length k else Z
def phx (c : Int) (s : El) (k : Int) : Int := ix 0 (ix [] (ph1 s s.X k) s.piv.length) c
def ph2 (f : Fld) (c : Int) (s : El) (Z : List (List Int)) (k : Int) : List (List Int) :=
  if invF f (phx c s k) ≠ 1 then (ph1 s Z k).set s.piv.length (scaleF f (invF f (phx c s k)) (ix [] (ph1 s Z k) s.piv.length)) else ph1 s Z k
/-- What column c does, with the row k. -/
def colK (f : Fld) (c : Int) (s : El) (k : Int) : El :=
  let r := clr f c s.piv.length (ph2 f c s s.X k) (ph2 f c s s.Y k) s.X.length
  ⟨r.1, r.2, s.piv ++ [c], mulF f (if k ≠ s.piv.length then negF f s.det else s.det) (phx c s k)⟩
@[simp] theorem length_ph1 (s : El) (Z : List (List Int)) (k : Int) : (ph1 s Z k).length = Z.length := by unfold ph1; split <;> simp
@[simp] theorem length_ph2 (f : Fld) (c : Int) (s : El) (Z : List (List Int)) (k : Int) : (ph2 f c s Z k).length = Z.length := by unfold ph2; split <;> simp
def col (f : Fld) (c : Int) (s : El) : El :=
  if s.piv.length < s.X.length then (if pivK s.X c s.piv.length < s.X.length then colK f c s (pivK s.X c s.piv.length) else s) else s
def elim (f : Fld) (X Y : List (List Int)) : Nat → El
  | 0 => ⟨X, Y, [], 1⟩
  | n + 1 => col f n (elim f X Y n)
theorem length_clr (f : Fld) (c p : Int) (X Y : List (List Int)) : ∀ n, (clr f c p X Y n).1.length = X.length ∧ (clr f c p X Y n).2.length = Y.length
  | 0 => ⟨rfl, rfl⟩
  | n + 1 => by
    have ih := length_clr f c p X Y n
    simp only [clr]
    split <;> simp [ih]
theorem length_colK (f : Fld) (c : Int) (s : El) (k : Int) : (colK f c s k).X.length = s.X.length ∧ (colK f c s k).Y.length = s.Y.length := by
  unfold colK
  simp only
  constructor
  · rw [(length_clr _ _ _ _ _ _).1]; simp
  · rw [(length_clr _ _ _ _ _ _).2]; simp
theorem length_col (f : Fld) (c : Int) (s : El) : (col f c s).X.length = s.X.length ∧ (col f c s).Y.length = s.Y.length := by
  unfold col
  split
  · split
    · exact length_colK f c s _
    · exact ⟨rfl, rfl⟩
  · exact ⟨rfl, rfl⟩
theorem length_elim (f : Fld) (X Y : List (List Int)) : ∀ n, (elim f X Y n).X.length = X.length ∧ (elim f X Y n).Y.length = Y.length
  | 0 => ⟨rfl, rfl⟩
  | n + 1 => by
    have ih := length_elim f X Y n
    have := length_col f n (elim f X Y n)
    simp only [elim]
    omega
/-- With all rows taken, the columns that follow change nothing. -/
theorem elim_full (f : Fld) (X Y : List (List Int)) {n : Nat} (h : ¬ (elim f X Y n).piv.length < X.length) : ∀ m, elim f X Y (n + m) = elim f X Y n
  | 0 => rfl
  | m + 1 => by
    have ih := elim_full f X Y h m
    show col f ((n + m : Nat) : Int) (elim f X Y (n + m)) = _
    rw [ih]
    unfold col
    rw [if_neg (by rw [(length_elim f X Y n).1]; exact h)]
def good (f : Fld) (w : Nat) (X : List (List Int)) : Prop := ∀ l ∈ X, l.length = w ∧ ¬ outF f l
def wide (w : Nat) (X : List (List Int)) : Prop := ∀ l ∈ X, l.length = w
theorem ix_mem' {l : List (List Int)} {i : Int} (h0 : 0 ≤ i) (h1 : i < l.length) : ix [] l i ∈ l := ix_mem [] l h0 h1
theorem good_set {f : Fld} {w : Nat} {X : List (List Int)} (h : good f w X) {l : List Int} (h1 : l.length = w) (h2 : ¬ outF f l) (i : Nat) : good f w (X.set i l) := fun y hy => by
  rcases List.mem_or_eq_of_mem_set hy with h3 | h3
  · exact h y h3
  · subst h3; exact ⟨h1, h2⟩
theorem wide_set {w : Nat} {X : List (List Int)} (h : wide w X) {l : List Int} (h1 : l.length = w) (i : Nat) : wide w (X.set i l) := fun y hy => by
  rcases List.mem_or_eq_of_mem_set hy with h3 | h3
  · exact h y h3
  · subst h3; exact h1
theorem set_out {α : Type} {l : List α} {i : Nat} (h : ¬ i < l.length) (x : α) : l.set i x = l := List.set_eq_of_length_le (by omega)
theorem wide_put {w : Nat} {X : List (List Int)} (h : wide w X) {l : List Int} (i : Nat) (h1 : i < X.length → l.length = w) : wide w (X.set i l) := by
  by_cases hi : i < X.length
  · exact wide_set h (h1 hi) i
  · rw [set_out hi]; exact h
theorem wide_ix {w : Nat} {X : List (List Int)} (h : wide w X) {i : Int} (h0 : 0 ≤ i) (h1 : i < X.length) : (ix [] X i).length = w := h _ (ix_mem' h0 h1)
theorem good_wide {f : Fld} {w : Nat} {X : List (List Int)} (h : good f w X) : wide w X := fun l hl => (h l hl).1
theorem wide_swp {w : Nat} {X : List (List Int)} (h : wide w X) {p k : Int} (p0 : 0 ≤ p) (k0 : 0 ≤ k) (hpk : p < X.length ↔ k < X.length) : wide w (swp [] X p k) := by
  unfold swp
  refine wide_put (wide_put h _ fun hi => wide_ix h k0 (by omega)) _ fun hi => wide_ix h p0 (by simp at hi; omega)
theorem good_swp {f : Fld} {w : Nat} {X : List (List Int)} (h : good f w X) {p k : Int} (p0 : 0 ≤ p) (p1 : p < X.length) (k0 : 0 ≤ k) (k1 : k < X.length) : good f w (swp [] X p k) := by
  unfold swp
  have a := h _ (ix_mem' k0 k1)
  have b := h _ (ix_mem' p0 p1)
  exact good_set (good_set h a.1 a.2 _) b.1 b.2 _
theorem out_scale {f : Fld} (hS : Shape f) (a : Int) (v : List Int) : ¬ outF f (scaleF f a v) := outF_mapR fun i _ _ => hS.mulF_lt _ _
theorem out_addTo {f : Fld} (hS : Shape f) {v : List Int} (hv : ¬ outF f v) (a : Int) (u : List Int) : ¬ outF f (addTo f v a u) := outF_mapR fun i i0 i1 => by
  split
  · exact ix_ok hS hv i
  · exact hS.addF_lt _ _
theorem good_ph1 {f : Fld} {w : Nat} {s : El} {Z : List (List Int)} (h : good f w Z) {k : Int} (k0 : 0 ≤ k) (k1 : k < Z.length) (p1 : s.piv.length < Z.length) : good f w (ph1 s Z k) := by
  unfold ph1; split
  · exact good_swp h (by omega) (by omega) k0 k1
  · exact h
theorem wide_ph1 {w : Nat} {s : El} {Z : List (List Int)} (h : wide w Z) {k : Int} (k0 : 0 ≤ k) (hpk : (s.piv.length : Int) < Z.length ↔ k < Z.length) : wide w (ph1 s Z k) := by
  unfold ph1; split
  · exact wide_swp h (by omega) k0 hpk
  · exact h
theorem good_ph2 {f : Fld} (hS : Shape f) {w : Nat} {c : Int} {s : El} {Z : List (List Int)} (h : good f w Z) {k : Int} (k0 : 0 ≤ k) (k1 : k < Z.length) (p1 : s.piv.length < Z.length) : good f w (ph2 f c s Z k) := by
  have h1 := good_ph1 h k0 k1 p1
  unfold ph2; split
  · exact good_set h1 (by rw [length_scaleF]; exact (h1 _ (ix_mem' (by omega) (by rw [length_ph1]; omega))).1) (out_scale hS _ _) _
  · exact h1
theorem wide_ph2 {f : Fld} {w : Nat} {c : Int} {s : El} {Z : List (List Int)} (h : wide w Z) {k : Int} (k0 : 0 ≤ k) (hpk : (s.piv.length : Int) < Z.length ↔ k < Z.length) : wide w (ph2 f c s Z k) := by
  have h1 := wide_ph1 h k0 hpk
  unfold ph2; split
  · exact wide_put h1 _ fun hi => by rw [length_scaleF]; exact wide_ix h1 (by omega) (by omega)
  · exact h1
theorem good_clr {f : Fld} (hS : Shape f) {w : Nat} {c p : Int} {X Y : List (List Int)} (h : good f w X) : ∀ n, n ≤ X.length → good f w (clr f c p X Y n).1
  | 0, _ => h
  | n + 1, hn => by
    have ih := good_clr hS (c := c) (p := p) (Y := Y) h n (by omega)
    have hl := (length_clr f c p X Y n).1
    simp only [clr]
    split
    · have := ih _ (ix_mem' (i := (n : Int)) (by omega) (by rw [hl]; omega))
      exact good_set ih (by rw [length_addTo]; exact this.1) (out_addTo hS this.2 _ _) _
    · exact ih
theorem wide_clr {f : Fld} {w : Nat} {c p : Int} {X Y : List (List Int)} (h : wide w Y) : ∀ n, wide w (clr f c p X Y n).2
  | 0 => h
  | n + 1 => by
    have ih := wide_clr (f := f) (c := c) (p := p) (X := X) h n
    simp only [clr]
    split
    · exact wide_put ih _ fun hi => by rw [length_addTo]; exact wide_ix ih (by omega) (by omega)
    · exact ih
theorem piv_le (f : Fld) (X Y : List (List Int)) : ∀ n, (elim f X Y n).piv.length ≤ X.length ∧ (elim f X Y n).piv.length ≤ n
  | 0 => by simp [elim]
  | n + 1 => by
    have ih := piv_le f X Y n
    have hl := (length_elim f X Y n).1
    simp only [elim, col]
    split
    · split
      · simp only [colK, List.length_append, List.length_cons, List.length_nil]; omega
      · omega
    · omega
theorem pivK_ge {X : List (List Int)} {c p : Int} (h0 : 0 ≤ p) : p ≤ pivK X c p := by unfold pivK; omega
theorem good_elim {f : Fld} (hS : Shape f) {w : Nat} {X Y : List (List Int)} (h : good f w X) : ∀ n, good f w (elim f X Y n).X
  | 0 => h
  | n + 1 => by
    have ih := good_elim hS (Y := Y) h n
    simp only [elim, col]
    split
    · split
      · rename_i h1 h2
        have hk := pivK_ge (X := (elim f X Y n).X) (c := n) (p := (elim f X Y n).piv.length) (by omega)
        exact good_clr hS (good_ph2 hS ih (by omega) h2 h1) _ (by simp)
      · exact ih
    · exact ih
theorem wide_elim {f : Fld} {w : Nat} {X Y : List (List Int)} (h : wide w Y) (hy : Y = [] ∨ Y.length = X.length) : ∀ n, wide w (elim f X Y n).Y
  | 0 => h
  | n + 1 => by
    have ih := wide_elim (f := f) (X := X) h hy n
    have hl := length_elim f X Y n
    simp only [elim, col]
    split
    · split
      · rename_i h1 h2
        have hk := pivK_ge (X := (elim f X Y n).X) (c := n) (p := (elim f X Y n).piv.length) (by omega)
        refine wide_clr (wide_ph2 ih (by omega) ?_) _
        rcases hy with hy | hy
        · have : (elim f X Y n).Y.length = 0 := by rw [hl.2, hy]; rfl
          omega
        · omega
      · exact ih
    · exact ih
theorem elim_step (f : Fld) (X Y : List (List Int)) {c : Int} (h0 : 0 ≤ c) : elim f X Y (c + 1).toNat = col f c (elim f X Y c.toNat) := by
  rw [show (c + 1).toNat = c.toNat + 1 by omega]
  show col f ((c.toNat : Nat) : Int) _ = _
  rw [show ((c.toNat : Nat) : Int) = c by omega]
theorem elim_same {f : Fld} {X Y : List (List Int)} {c k : Int} (h0 : 0 ≤ c) (hk : pivK (elim f X Y c.toNat).X c (elim f X Y c.toNat).piv.length = k) (h1 : k = X.length) : elim f X Y (c + 1).toNat = elim f X Y c.toNat := by
  rw [elim_step f X Y h0]
  unfold col
  have hl := (length_elim f X Y c.toNat).1
  split
  · rw [if_neg (by rw [hk]; omega)]
  · rfl
theorem elim_next {f : Fld} {X Y : List (List Int)} {c k : Int} (h0 : 0 ≤ c) (hp : (elim f X Y c.toNat).piv.length < X.length) (hk : pivK (elim f X Y c.toNat).X c (elim f X Y c.toNat).piv.length = k) (h1 : k < X.length) : elim f X Y (c + 1).toNat = colK f c (elim f X Y c.toNat) k := by
  rw [elim_step f X Y h0]
  unfold col
  have hl := (length_elim f X Y c.toNat).1
  rw [if_pos (by omega), if_pos (by rw [hk]; omega), hk]
theorem elim_end {f : Fld} {X Y : List (List Int)} {c cols : Int} (h0 : 0 ≤ c) (h1 : c ≤ cols) (h : ¬ (c < cols ∧ ((elim f X Y c.toNat).piv.length : Int) < X.length)) : elim f X Y cols.toNat = elim f X Y c.toNat := by
  by_cases hc : c = cols
  · rw [hc]
  · have := elim_full f X Y (n := c.toNat) (by omega) (cols.toNat - c.toNat)
    rwa [show c.toNat + (cols.toNat - c.toNat) = cols.toNat by omega] at this
theorem clr_go {f : Fld} {c p : Int} {X Y A B : List (List Int)} {i : Int} (h0 : 0 ≤ i) (h : clr f c p X Y i.toNat = (A, B)) (hc : i ≠ p ∧ ix 0 (ix [] A i) c ≠ 0) :
    clr f c p X Y (i + 1).toNat = (A.set i.toNat (addTo f (ix [] A i) (negF f (ix 0 (ix [] A i) c)) (ix [] A p)), B.set i.toNat (addTo f (ix [] B i) (negF f (ix 0 (ix [] A i) c)) (ix [] B p))) := by
  rw [show (i + 1).toNat = i.toNat + 1 by omega]
  simp only [clr, h]
  rw [show ((i.toNat : Nat) : Int) = i by omega, if_pos hc]
theorem clr_stay {f : Fld} {c p : Int} {X Y A B : List (List Int)} {i : Int} (h0 : 0 ≤ i) (h : clr f c p X Y i.toNat = (A, B)) (hc : ¬ (i ≠ p ∧ ix 0 (ix [] A i) c ≠ 0)) : clr f c p X Y (i + 1).toNat = (A, B) := by
  rw [show (i + 1).toNat = i.toNat + 1 by omega]
  simp only [clr, h]
  rw [show ((i.toNat : Nat) : Int) = i by omega, if_neg hc]
theorem ix_swp {α : Type} (d : α) (l : List α) {p k : Int} (p0 : 0 ≤ p) (p1 : p < l.length) (k0 : 0 ≤ k) (k1 : k < l.length) : ix d (swp d l p k) p = ix d l k := by
  unfold swp
  by_cases h : k.toNat = p.toNat
  · have : k = p := by omega
    subst this
    simp [ix, List.getD, show k.toNat < l.length by omega]
  · have e : ((l.set p.toNat (ix d l k)).set k.toNat (ix d l p))[p.toNat]? = some (ix d l k) := by
      rw [List.getElem?_set_ne h, List.getElem?_set_self (by omega)]
    have hl : (p.toNat : Nat) < ((l.set p.toNat (ix d l k)).set k.toNat (ix d l p)).length := (List.getElem?_eq_some_iff.1 e).1
    have := ix_get d ((l.set p.toNat (ix d l k)).set k.toNat (ix d l p)) p p0 (by omega)
    rw [e] at this
    exact (Option.some.inj this).symm
theorem phx_eq {c : Int} {s : El} {k : Int} (p1 : s.piv.length < s.X.length) (k0 : 0 ≤ k) (k1 : k < s.X.length) : phx c s k = ix 0 (ix [] s.X k) c := by
  unfold phx ph1
  split
  · rw [ix_swp [] s.X (by omega) (by omega) k0 k1]
  · rename_i h
    rw [show k = (s.piv.length : Int) by omega]
theorem good_ixlt {f : Fld} (hS : Shape f) {w : Nat} {X : List (List Int)} (h : good f w X) {i : Int} (h0 : 0 ≤ i) (h1 : i < X.length) (j : Int) : 0 ≤ ix 0 (ix [] X i) j ∧ ix 0 (ix [] X i) j < f.q := ix_ok hS (h _ (ix_mem' h0 h1)).2 j
theorem len_le {f : Fld} {w : Nat} {X : List (List Int)} (h : good f w X) (hw : w ≤ 100000) (i : Int) : (ix [] X i).length ≤ 1000000 := by
  by_cases hi : i.toNat < X.length
  · have : ix [] X i ∈ X := by simp [ix, List.getD, hi]
    have := (h _ this).1; omega
  · have : ix [] X i = [] := by simp only [ix, List.getD]; rw [List.getElem?_eq_none (by omega)]; rfl
    rw [this]; simp
theorem wid_le {w : Nat} {X : List (List Int)} (h : wide w X) (hw : w ≤ 100000) (i : Int) : (ix [] X i).length ≤ 1000000 := by
  by_cases hi : i.toNat < X.length
  · have : ix [] X i ∈ X := by simp [ix, List.getD, hi]
    have := h _ this; omega
  · have : ix [] X i = [] := by simp only [ix, List.getD]; rw [List.getElem?_eq_none (by omega)]; rfl
    rw [this]; simp
theorem wid_eq {w n : Nat} {X : List (List Int)} (h : wide w X) (hy : X.length = 0 ∨ X.length = n) {i j : Int} (i0 : 0 ≤ i) (i1 : i < n) (j0 : 0 ≤ j) (j1 : j < n) : (ix [] X i).length = (ix [] X j).length := by
  rcases hy with hy | hy
  · have : X = [] := List.eq_nil_of_length_eq_zero hy
    subst this; rfl
  · rw [wide_ix h i0 (by omega), wide_ix h j0 (by omega)]
end Go.Cw

