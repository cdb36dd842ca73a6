/-
  The functions of the layer on lists.
-/
import Derived.Test.YtamhdlkfhhpdpaaPlainEk
set_option linter.unusedVariables false
set_option linter.unusedSimpArgs false
set_option linter.unusedSectionVars false
namespace Go.Cw
theorem mem_mapR {α : Type} {f : Int → α} {n : Int} {x : α} (h : x ∈ mapR f n) : ∃ v : Int, 0 ≤ v ∧ v < n ∧ x = f v := by
  obtain ⟨j, hj, rfl⟩ := List.mem_map.1 h
  rw [List.mem_range] at hj
  exact ⟨j, by omega, by omega, rfl⟩
theorem ix_setE {α : Type} (d : α) (l : List α) {i j : Int} (x : α) (h0 : 0 ≤ i) (h1 : i < l.length) (j0 : 0 ≤ j) : ix d (l.set i.toNat x) j = if j = i then x else ix d l j := by
  by_cases h : j = i
  · subst h; rw [if_pos rfl]; simp [ix, List.getD, show j.toNat < l.length by omega]
  · rw [if_neg h]; simp only [ix, List.getD]; rw [List.getElem?_set_ne (by omega)]
open Classical in
noncomputable def mErr (f : Fld) (m : Mat) : Int := if FOk f then matErr f m else 1
theorem mErr_zero {f : Fld} {m : Mat} : mErr f m = 0 ↔ FOk f ∧ matErr f m = 0 := by
  unfold mErr
  split <;> simp_all
theorem mErr_ok {f : Fld} {m : Mat} (h : FOk f) : mErr f m = matErr f m := if_pos h
/-- A matrix in order: its rows are of one width, of elements. -/
theorem mat_good {f : Fld} {m : Mat} (h : matErr f m = 0) : good f m.cols.toNat m.rows := fun l hl => by
  obtain ⟨h1, h2, h3⟩ := matErr_zero.1 h
  have hs := mat_size h
  refine ⟨?_, fun hb => h3 ⟨l, hl, hb⟩⟩
  have : (l.length : Int) = m.cols := Classical.byContradiction fun hn => h2 ⟨l, hl, hn⟩
  omega
theorem good_mat {f : Fld} {m : Mat} (h0 : 0 ≤ m.cols) (h1 : m.cols ≤ 256) (h2 : m.rows.length ≤ 256) (h : good f m.cols.toNat m.rows) : matErr f m = 0 :=
  matErr_zero.2 ⟨by unfold sizeBad; omega, fun ⟨l, hl, hn⟩ => hn (by have := (h l hl).1; omega), fun ⟨l, hl, hb⟩ => (h l hl).2 hb⟩
def canX (f : Fld) (m : Mat) : El := elim f m.rows [] m.cols.toNat
def canR (e : El) : List (List Int) := e.X.take e.piv.length
noncomputable def canM (f : Fld) (m : Mat) : Mat := if mErr f m = 0 then ⟨m.cols, canR (canX f m)⟩ else Mat.no
noncomputable def canP (f : Fld) (m : Mat) : List Int := if mErr f m = 0 then (canX f m).piv else []
theorem wide_nil (w : Nat) : wide w [] := fun l hl => by cases hl
/-- The word of column c, with the first i pivots entered. -/
def kerTo (f : Fld) (R : List (List Int)) (P : List Int) (cols c : Int) : Nat → List Int
  | 0 => (List.replicate cols.toNat 0).set c.toNat 1
  | i + 1 => (kerTo f R P cols c i).set (ix 0 P i).toNat (negF f (ix 0 (ix [] R i) c))
@[simp] theorem length_kerTo (f : Fld) (R : List (List Int)) (P : List Int) (cols c : Int) : ∀ i, (kerTo f R P cols c i).length = cols.toNat
  | 0 => by simp [kerTo]
  | i + 1 => by rw [kerTo, List.length_set]; exact length_kerTo f R P cols c i
/-- The words of the columns below c that are no pivots. -/
def kerL (f : Fld) (R : List (List Int)) (P : List Int) (cols : Int) : Nat → List (List Int)
  | 0 => []
  | c + 1 => if (c : Int) ∈ P then kerL f R P cols c else kerL f R P cols c ++ [kerTo f R P cols c P.length]
theorem kerTo_succ (f : Fld) (R : List (List Int)) (P : List Int) (cols c : Int) {i : Int} (h0 : 0 ≤ i) : kerTo f R P cols c (i + 1).toNat = (kerTo f R P cols c i.toNat).set (ix 0 P i).toNat (negF f (ix 0 (ix [] R i) c)) := by
  rw [show (i + 1).toNat = i.toNat + 1 by omega, kerTo, show ((i.toNat : Nat) : Int) = i by omega]
theorem kerL_in {f : Fld} {R : List (List Int)} {P : List Int} {cols c : Int} (h0 : 0 ≤ c) (h : c ∈ P) : kerL f R P cols (c + 1).toNat = kerL f R P cols c.toNat := by
  rw [show (c + 1).toNat = c.toNat + 1 by omega, kerL, show ((c.toNat : Nat) : Int) = c by omega, if_pos h]
theorem kerL_out {f : Fld} {R : List (List Int)} {P : List Int} {cols c : Int} (h0 : 0 ≤ c) (h : c ∉ P) : kerL f R P cols (c + 1).toNat = kerL f R P cols c.toNat ++ [kerTo f R P cols c P.length] := by
  rw [show (c + 1).toNat = c.toNat + 1 by omega, kerL, show ((c.toNat : Nat) : Int) = c by omega, if_neg h]
theorem kerL_len (f : Fld) (R : List (List Int)) (P : List Int) (cols : Int) : ∀ c, (kerL f R P cols c).length ≤ c
  | 0 => Nat.le_refl _
  | c + 1 => by
    have := kerL_len f R P cols c
    rw [kerL]
    split
    · omega
    · simp; omega
def kerX (f : Fld) (rows : List (List Int)) (cols : Int) : List (List Int) :=
  let e := elim f rows [] cols.toNat
  kerL f (canR e) e.piv cols cols.toNat
def nullR (f : Fld) (rows : List (List Int)) (cols : Int) : List (List Int) := canR (elim f (kerX f rows cols) [] cols.toNat)
noncomputable def kerM (f : Fld) (m : Mat) : Mat := if mErr f m = 0 then ⟨m.cols, nullR f m.rows m.cols⟩ else Mat.no
def augL (X : List (List Int)) (b : List Int) : List (List Int) := mapR (fun i => ix [] X i ++ [ix 0 b i]) X.length
@[simp] theorem length_augL (X : List (List Int)) (b : List Int) : (augL X b).length = X.length := by unfold augL; rw [length_mapR]; omega
def solTo (E : El) (cols : Int) : Nat → List Int
  | 0 => List.replicate cols.toNat 0
  | i + 1 => (solTo E cols i).set (ix 0 E.piv i).toNat (ix 0 (ix [] E.X i) cols)
@[simp] theorem length_solTo (E : El) (cols : Int) : ∀ i, (solTo E cols i).length = cols.toNat
  | 0 => by simp [solTo]
  | i + 1 => by rw [solTo, List.length_set]; exact length_solTo E cols i
theorem solTo_succ (E : El) (cols : Int) {i : Int} (h0 : 0 ≤ i) : solTo E cols (i + 1).toNat = (solTo E cols i.toNat).set (ix 0 E.piv i).toNat (ix 0 (ix [] E.X i) cols) := by
  rw [show (i + 1).toNat = i.toNat + 1 by omega, solTo, show ((i.toNat : Nat) : Int) = i by omega]
/-- Is a row behind the pivots not zero on the right? -/
def offR (E : El) (cols : Int) : Prop := ∃ l ∈ E.X.drop E.piv.length, ix 0 l cols ≠ 0
def vecErr (f : Fld) (v : List Int) (n : Int) : Int := if (v.length : Int) ≠ n then 3 else entErr f v
noncomputable def sErr (f : Fld) (m : Mat) (b : List Int) : Int := if mErr f m = 0 then vecErr f b m.rows.length else mErr f m
def solX (f : Fld) (m : Mat) (b : List Int) : El := elim f (augL m.rows b) [] m.cols.toNat
open Classical in
noncomputable def solE (f : Fld) (m : Mat) (b : List Int) : Int := if sErr f m b = 0 then (if offR (solX f m b) m.cols then 11 else 0) else sErr f m b
noncomputable def solV (f : Fld) (m : Mat) (b : List Int) : List Int := if solE f m b = 0 then solTo (solX f m b) m.cols (solX f m b).piv.length else []
def uni (n : Int) : List (List Int) := mkM n n (fun i j => if i = j then 1 else 0)
def traX (f : Fld) (m : Mat) : El := elim f m.rows (uni m.rows.length) m.cols.toNat
noncomputable def sqErr (f : Fld) (m : Mat) : Int := if mErr f m = 0 then (if (m.rows.length : Int) ≠ m.cols then 3 else 0) else mErr f m
noncomputable def invE (f : Fld) (m : Mat) : Int := if sqErr f m = 0 then (if ((traX f m).piv.length : Int) < m.cols then 9 else 0) else sqErr f m
noncomputable def invM (f : Fld) (m : Mat) : Mat := if invE f m = 0 then ⟨m.cols, (traX f m).Y⟩ else Mat.no
noncomputable def detV (f : Fld) (m : Mat) : Int := if sqErr f m = 0 then (if ((canX f m).piv.length : Int) < m.cols then 0 else (canX f m).det) else 0
noncomputable def twoErr (f : Fld) (a b : Mat) : Int := if mErr f a = 0 then mErr f b else mErr f a
noncomputable def mulE (f : Fld) (a b : Mat) : Int := if twoErr f a b = 0 then (if a.cols ≠ b.rows.length then 10 else 0) else twoErr f a b
noncomputable def mulV (f : Fld) (a b : Mat) : Mat := if mulE f a b = 0 then mulM f a b else Mat.no
def turnL (rows : List (List Int)) (cols : Int) : List (List Int) := mapR (fun j => rows.map fun row => ix 0 row j) cols
noncomputable def turM (f : Fld) (m : Mat) : Mat := if mErr f m = 0 then ⟨m.rows.length, turnL m.rows m.cols⟩ else Mat.no
/-- Few rows and entries. -/
def fewGo : List (List Int) → Int → Bool
  | [], _ => true
  | l :: r, left => if left < l.length then false else fewGo r (left - l.length)
def few (m : Mat) (n : Int) : Bool := if 260 < m.cols ∨ n < m.rows.length then false else fewGo m.rows (n - m.rows.length)
def pickL (row set : List Int) : List Int := set.map fun j => ix 0 row j
noncomputable def besE (f : Fld) (a b : Mat) : Int := if twoErr f a b = 0 then (if a.rows.length ≠ b.rows.length then 10 else if 256 < a.cols + b.cols then 8 else 0) else twoErr f a b
noncomputable def besM (f : Fld) (a b : Mat) : Mat := if besE f a b = 0 then ⟨a.cols + b.cols, mapR (fun i => ix [] a.rows i ++ ix [] b.rows i) a.rows.length⟩ else Mat.no
noncomputable def vecE (f : Fld) (x : List Int) (m : Mat) : Int := if mErr f m = 0 then vecErr f x m.rows.length else mErr f m
noncomputable def vecV (f : Fld) (x : List Int) (m : Mat) : List Int := if vecE f x m = 0 then comb f x m.rows m.cols else []
theorem uni_row {n i : Int} (h0 : 0 ≤ i) (h1 : i < n) : ix [] (uni n) i = (List.replicate n.toNat 0).set i.toNat 1 := by
  unfold uni
  rw [ix_mkM _ h0 h1, ← mapR_const, mapR_set _ h0]
  exact mapR_congr fun j j0 j1 => by
    by_cases e : j = i
    · rw [if_pos e, if_pos e.symm]
    · rw [if_neg e, if_neg (Ne.symm e)]
theorem length_uni (n : Int) : (uni n).length = n.toNat := length_mkM _ _ _
theorem set_set_ix {α : Type} (M : List (List α)) {i : Int} (v : List α) (c : Nat) (x : α) (h0 : 0 ≤ i) (h1 : i < M.length) : (M.set i.toNat v).set i.toNat ((ix [] (M.set i.toNat v) i).set c x) = M.set i.toNat (v.set c x) := by
  rw [List.set_set, ix_setE [] M v h0 h1 h0, if_pos rfl]
theorem ixlen_setR {M : List (List Int)} {i : Int} (v : List Int) (h0 : 0 ≤ i) (h1 : i < M.length) : (ix [] (M.set i.toNat v) i).length = v.length := by rw [ix_setE [] M v h0 h1 h0, if_pos rfl]
theorem wide_uni (n : Int) : wide n.toNat (uni n) := fun l hl => by
  unfold uni mkM at hl
  obtain ⟨v, v0, v1, rfl⟩ := mem_mapR hl
  exact length_mapR _ _
theorem canM_ok {f : Fld} {m : Mat} (h : mErr f m = 0) : canM f m = ⟨m.cols, canR (canX f m)⟩ := if_pos h
theorem canM_no {f : Fld} {m : Mat} (h : mErr f m ≠ 0) : canM f m = Mat.no := if_neg h
theorem canP_ok {f : Fld} {m : Mat} (h : mErr f m = 0) : canP f m = (canX f m).piv := if_pos h
theorem canP_no {f : Fld} {m : Mat} (h : mErr f m ≠ 0) : canP f m = [] := if_neg h
theorem kerM_ok {f : Fld} {m : Mat} (h : mErr f m = 0) : kerM f m = ⟨m.cols, nullR f m.rows m.cols⟩ := if_pos h
theorem kerM_no {f : Fld} {m : Mat} (h : mErr f m ≠ 0) : kerM f m = Mat.no := if_neg h
/-- The error of opening matrices. -/
noncomputable def opErr (f : Fld) (l : List Mat) : Int := if FOk f then matsErr f l else 1
theorem opErr_one (f : Fld) (m : Mat) : opErr f [m] = mErr f m := by
  unfold opErr mErr matsErr matsErr
  by_cases h : FOk f
  · rw [if_pos h, if_pos h]; split <;> simp_all
  · rw [if_neg h, if_neg h]
theorem opErr_two (f : Fld) (a b : Mat) : opErr f [a, b] = twoErr f a b := by
  unfold opErr twoErr mErr matsErr matsErr matsErr
  by_cases h : FOk f
  · simp only [if_pos h]; split
    · split <;> simp_all
    · rfl
  · simp only [if_neg h]; rfl
theorem matsErr_zero {f : Fld} : ∀ {l : List Mat}, matsErr f l = 0 ↔ ∀ m ∈ l, matErr f m = 0
  | [] => by simp [matsErr]
  | m :: l => by
    unfold matsErr
    have ih := matsErr_zero (f := f) (l := l)
    split
    · rename_i h; rw [ih]; simp [h]
    · rename_i h; simp [h]
theorem opErr_zero {f : Fld} {l : List Mat} : opErr f l = 0 ↔ FOk f ∧ ∀ m ∈ l, matErr f m = 0 := by
  unfold opErr
  split
  · rename_i h; rw [matsErr_zero]; simp [h]
  · rename_i h; simp [h]
theorem matsErr_at {f : Fld} : ∀ {l : List Mat} {i : Int}, 0 ≤ i → i < l.length → (∀ m ∈ l.take i.toNat, matErr f m = 0) → matErr f (ix Mat.no l i) ≠ 0 → matsErr f l = matErr f (ix Mat.no l i)
  | [], i, h0, h1, _, _ => by simp at h1; omega
  | m :: l, i, h0, h1, hp, he => by
    unfold matsErr
    by_cases hi : i = 0
    · subst hi
      have e : ix Mat.no (m :: l) 0 = m := rfl
      rw [e] at he ⊢
      rw [if_neg he]
    · have e : ix Mat.no (m :: l) i = ix Mat.no l (i - 1) := by
        simp only [ix, List.getD]
        rw [show i.toNat = (i - 1).toNat + 1 by omega, List.getElem?_cons_succ]
      rw [show i.toNat = (i - 1).toNat + 1 by omega, List.take_succ_cons] at hp
      rw [if_pos (hp m (by simp)), e]
      rw [e] at he
      exact matsErr_at (by omega) (by simp at h1; omega) (fun x hx => hp x (List.mem_cons_of_mem _ hx)) he
theorem piv_rng (f : Fld) (X Y : List (List Int)) : ∀ n : Nat, ∀ p ∈ (elim f X Y n).piv, 0 ≤ p ∧ p < n
  | 0, p, h => by cases h
  | n + 1, p, h => by
    have ih := piv_rng f X Y n
    simp only [elim, col] at h
    split at h
    · split at h
      · simp only [colK, List.mem_append, List.mem_singleton] at h
        rcases h with h | h
        · have := ih p h; omega
        · omega
      · have := ih p h; omega
    · have := ih p h; omega
theorem piv_ix (f : Fld) (X Y : List (List Int)) (n : Nat) {i : Int} (h0 : 0 ≤ i) (h1 : i < (elim f X Y n).piv.length) : 0 ≤ ix 0 (elim f X Y n).piv i ∧ ix 0 (elim f X Y n).piv i < n := piv_rng f X Y n _ (ix_mem 0 _ h0 h1)
theorem good_take {f : Fld} {w : Nat} {X : List (List Int)} (h : good f w X) (k : Nat) : good f w (X.take k) := fun l hl => h l (List.mem_of_mem_take hl)
theorem canR_good {f : Fld} (hS : Shape f) {w : Nat} {X : List (List Int)} (h : good f w X) (n : Nat) : good f w (canR (elim f X [] n)) := good_take (good_elim hS h n) _
theorem length_canR (f : Fld) (X : List (List Int)) (n : Nat) : (canR (elim f X [] n)).length = (elim f X [] n).piv.length := by
  have a := (length_elim f X [] n).1
  have b := (piv_le f X [] n).1
  unfold canR; rw [List.length_take]; omega
theorem notOut_set {f : Fld} {l : List Int} (h : ¬ outF f l) {x : Int} (x0 : 0 ≤ x) (x1 : x < f.q) (i : Nat) : ¬ outF f (l.set i x) := by
  rintro ⟨y, hy, hb⟩
  rcases List.mem_or_eq_of_mem_set hy with h1 | h1
  · exact h ⟨y, h1, hb⟩
  · rw [h1] at hb; exact hb ⟨x0, x1⟩
theorem notOut_zero {f : Fld} (hS : Shape f) (n : Nat) : ¬ outF f (List.replicate n 0) := by
  have hb := hS.bd
  rintro ⟨y, hy, hb2⟩
  rw [List.eq_of_mem_replicate hy] at hb2
  exact hb2 ⟨by omega, by omega⟩
theorem kerTo_good {f : Fld} (hS : Shape f) (R : List (List Int)) (P : List Int) (cols c : Int) : ∀ i, ¬ outF f (kerTo f R P cols c i)
  | 0 => by have hb := hS.bd; exact notOut_set (notOut_zero hS _) (by omega) (by omega) _
  | i + 1 => notOut_set (kerTo_good hS R P cols c i) (hS.negF_lt _).1 (hS.negF_lt _).2 _
theorem ker_good {f : Fld} (hS : Shape f) (R : List (List Int)) (P : List Int) (cols : Int) : ∀ c, good f cols.toNat (kerL f R P cols c)
  | 0 => fun l hl => by cases hl
  | c + 1 => by
    have ih := ker_good hS R P cols c
    rw [kerL]
    split
    · exact ih
    · intro l hl
      rcases List.mem_append.1 hl with h | h
      · exact ih l h
      · rw [List.mem_singleton] at h
        rw [h]
        exact ⟨length_kerTo _ _ _ _ _ _, kerTo_good hS _ _ _ _ _⟩
theorem notOut_app {f : Fld} {a b : List Int} (ha : ¬ outF f a) (hb : ¬ outF f b) : ¬ outF f (a ++ b) := by
  rintro ⟨y, hy, hn⟩
  rcases List.mem_append.1 hy with h | h
  · exact ha ⟨y, h, hn⟩
  · exact hb ⟨y, h, hn⟩
theorem aug_good {f : Fld} (hS : Shape f) {w : Nat} {X : List (List Int)} {b : List Int} (h : good f w X) (hb : ¬ outF f b) : good f (w + 1) (augL X b) := fun l hl => by
  unfold augL at hl
  obtain ⟨i, i0, i1, rfl⟩ := mem_mapR hl
  have hi := h _ (ix_mem' i0 i1)
  refine ⟨by simp [hi.1], notOut_app hi.2 ?_⟩
  rintro ⟨y, hy, hn⟩
  rw [List.mem_singleton] at hy
  rw [hy] at hn
  exact hn (ix_ok hS hb i)
theorem ix_augL {X : List (List Int)} {b : List Int} {i : Int} (h0 : 0 ≤ i) (h1 : i < X.length) : ix [] (augL X b) i = ix [] X i ++ [ix 0 b i] := by
  unfold augL; rw [ix_mapR [] _ h0 h1]
theorem ix_mixG {α : Type} (d : α) (l r : List α) {i : Int} (h0 : 0 ≤ i) (h1 : i < l.length) (h : l.length = r.length) : ix d (mixG l r i) i = ix d r i := by
  unfold mixG
  simp only [ix, List.getD]
  rw [List.getElem?_append_right (by simp; omega), List.getElem?_drop, List.length_take, show i.toNat + (i.toNat - min i.toNat l.length) = i.toNat by omega]
/-- The diagonal of the errors of Solve. -/
theorem sErr_ok {f : Fld} {m : Mat} {b : List Int} (h : mErr f m = 0) : sErr f m b = vecErr f b m.rows.length := if_pos h
theorem sErr_no {f : Fld} {m : Mat} {b : List Int} (h : mErr f m ≠ 0) : sErr f m b = mErr f m := if_neg h
theorem vecErr_len {f : Fld} {v : List Int} {n : Int} (h : (v.length : Int) ≠ n) : vecErr f v n = 3 := if_pos h
theorem vecErr_ent {f : Fld} {v : List Int} {n : Int} (h : ¬ (v.length : Int) ≠ n) : vecErr f v n = entErr f v := if_neg h
theorem solE_no {f : Fld} {m : Mat} {b : List Int} (h : sErr f m b ≠ 0) : solE f m b = sErr f m b := if_neg h
theorem solE_off {f : Fld} {m : Mat} {b : List Int} (h : sErr f m b = 0) (h2 : offR (solX f m b) m.cols) : solE f m b = 11 := by unfold solE; rw [if_pos h, if_pos h2]
theorem solE_ok {f : Fld} {m : Mat} {b : List Int} (h : sErr f m b = 0) (h2 : ¬ offR (solX f m b) m.cols) : solE f m b = 0 := by unfold solE; rw [if_pos h, if_neg h2]
theorem solV_ok {f : Fld} {m : Mat} {b : List Int} (h : solE f m b = 0) : solV f m b = solTo (solX f m b) m.cols (solX f m b).piv.length := if_pos h
theorem solV_no {f : Fld} {m : Mat} {b : List Int} (h : solE f m b ≠ 0) : solV f m b = [] := if_neg h
theorem sqErr_no {f : Fld} {m : Mat} (h : mErr f m ≠ 0) : sqErr f m = mErr f m := if_neg h
theorem sqErr_bad {f : Fld} {m : Mat} (h : mErr f m = 0) (h2 : (m.rows.length : Int) ≠ m.cols) : sqErr f m = 3 := by unfold sqErr; rw [if_pos h, if_pos h2]
theorem sqErr_ok {f : Fld} {m : Mat} (h : mErr f m = 0) (h2 : ¬ (m.rows.length : Int) ≠ m.cols) : sqErr f m = 0 := by unfold sqErr; rw [if_pos h, if_neg h2]
theorem invE_no {f : Fld} {m : Mat} (h : sqErr f m ≠ 0) : invE f m = sqErr f m := if_neg h
theorem invE_rank {f : Fld} {m : Mat} (h : sqErr f m = 0) (h2 : ((traX f m).piv.length : Int) < m.cols) : invE f m = 9 := by unfold invE; rw [if_pos h, if_pos h2]
theorem invE_ok {f : Fld} {m : Mat} (h : sqErr f m = 0) (h2 : ¬ ((traX f m).piv.length : Int) < m.cols) : invE f m = 0 := by unfold invE; rw [if_pos h, if_neg h2]
theorem invM_ok {f : Fld} {m : Mat} (h : invE f m = 0) : invM f m = ⟨m.cols, (traX f m).Y⟩ := if_pos h
theorem invM_no {f : Fld} {m : Mat} (h : invE f m ≠ 0) : invM f m = Mat.no := if_neg h
theorem detV_no {f : Fld} {m : Mat} (h : sqErr f m ≠ 0) : detV f m = 0 := if_neg h
theorem detV_rank {f : Fld} {m : Mat} (h : sqErr f m = 0) (h2 : ((canX f m).piv.length : Int) < m.cols) : detV f m = 0 := by unfold detV; rw [if_pos h, if_pos h2]
theorem detV_ok {f : Fld} {m : Mat} (h : sqErr f m = 0) (h2 : ¬ ((canX f m).piv.length : Int) < m.cols) : detV f m = (canX f m).det := by unfold detV; rw [if_pos h, if_neg h2]
theorem vecE_ok {f : Fld} {x : List Int} {m : Mat} (h : mErr f m = 0) : vecE f x m = vecErr f x m.rows.length := if_pos h
theorem vecE_no {f : Fld} {x : List Int} {m : Mat} (h : mErr f m ≠ 0) : vecE f x m = mErr f m := if_neg h
theorem vecV_ok {f : Fld} {x : List Int} {m : Mat} (h : vecE f x m = 0) : vecV f x m = comb f x m.rows m.cols := if_pos h
theorem vecV_no {f : Fld} {x : List Int} {m : Mat} (h : vecE f x m ≠ 0) : vecV f x m = [] := if_neg h
end Go.Cw

