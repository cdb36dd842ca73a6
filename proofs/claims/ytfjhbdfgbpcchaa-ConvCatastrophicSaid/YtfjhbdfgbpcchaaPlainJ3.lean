/-
  Plain facts.
-/
import Derived.Test.YtfjhbdfgbpcchaaPlainJ2
set_option linter.unnecessarySimpa false
set_option linter.unusedVariables false
set_option linter.unusedSimpArgs false
set_option linter.unusedSectionVars false
namespace Go.Cw
theorem ix_setE {α : Type} (d : α) (l : List α) {i j : Int} (x : α) (h0 : 0 ≤ i) (h1 : i < l.length) (j0 : 0 ≤ j) : ix d (l.set i.toNat x) j = if j = i then x else ix d l j := by
 by_cases h : j = i
 ·subst h; rw [if_pos rfl]; simp [ix, List.getD, show j.toNat < l.length by omega]
 ·rw [if_neg h]; simp only [ix, List.getD]; rw [List.getElem?_set_ne (by omega)]
open Classical in
noncomputable def mErr (f : Fld) (m : Mat) : Int := if FOk f then matErr f m else 1
theorem mErr_zero {f : Fld} {m : Mat} : mErr f m = 0 ↔ FOk f ∧ matErr f m = 0 := by
 unfold mErr
 split <;> simp_all
theorem mat_good {f : Fld} {m : Mat} (h : matErr f m = 0) : good f m.cols.toNat m.rows := fun l hl => by
 obtain ⟨h1, h2, h3⟩ := matErr_zero.1 h
 have hs := mat_size h
 refine ⟨?_, fun hb => h3 ⟨l, hl, hb⟩⟩
 have : (l.length : Int) = m.cols := Classical.byContradiction fun hn => h2 ⟨l, hl, hn⟩
 omega
theorem good_mat {f : Fld} {m : Mat} (h0 : 0 ≤ m.cols) (h1 : m.cols ≤ 256) (h2 : m.rows.length ≤ 256) (h : good f m.cols.toNat m.rows) : matErr f m = 0 :=
 matErr_zero.2 ⟨by unfold sizeBad; omega, fun ⟨l, hl, hn⟩ => hn (by have := (h l hl).1; omega), fun ⟨l, hl, hb⟩ => (h l hl).2 hb⟩
def canX (f : Fld) (m : Mat) : El := elim f m.rows [] m.cols.toNat
def canR (e : El) : List (List Int) := e.X.take e.piv.length
noncomputable def canM (f : Fld) (m : Mat) : Mat := if mErr f m = 0 then ⟨m.cols, canR (canX f m)⟩ else Mat.no
noncomputable def canP (f : Fld) (m : Mat) : List Int := if mErr f m = 0 then (canX f m).piv else []
theorem wide_nil (w : Nat) : wide w [] := fun l hl => by cases hl
def kerTo (f : Fld) (R : List (List Int)) (P : List Int) (cols c : Int) : Nat → List Int
 | 0 => (List.replicate cols.toNat 0).set c.toNat 1
 | i + 1 => (kerTo f R P cols c i).set (ix 0 P i).toNat (negF f (ix 0 (ix [] R i) c))
@[simp] theorem length_kerTo (f : Fld) (R : List (List Int)) (P : List Int) (cols c : Int) : ∀ i, (kerTo f R P cols c i).length = cols.toNat
 | 0 => by simp [kerTo]
 | i + 1 => by rw [kerTo, List.length_set]; exact length_kerTo f R P cols c i
def kerL (f : Fld) (R : List (List Int)) (P : List Int) (cols : Int) : Nat → List (List Int)
 | 0 => []
 | c + 1 => if (c : Int) ∈ P then kerL f R P cols c else kerL f R P cols c ++ [kerTo f R P cols c P.length]
def kerX (f : Fld) (rows : List (List Int)) (cols : Int) : List (List Int) :=
 let e := elim f rows [] cols.toNat
 kerL f (canR e) e.piv cols cols.toNat
def nullR (f : Fld) (rows : List (List Int)) (cols : Int) : List (List Int) := canR (elim f (kerX f rows cols) [] cols.toNat)
noncomputable def kerM (f : Fld) (m : Mat) : Mat := if mErr f m = 0 then ⟨m.cols, nullR f m.rows m.cols⟩ else Mat.no
def augL (X : List (List Int)) (b : List Int) : List (List Int) := mapR (fun i => ix [] X i ++ [ix 0 b i]) X.length
@[simp] theorem length_augL (X : List (List Int)) (b : List Int) : (augL X b).length = X.length := by unfold augL; rw [length_mapR]; omega
def solTo (E : El) (cols : Int) : Nat → List Int
 | 0 => List.replicate cols.toNat 0
 | i + 1 => (solTo E cols i).set (ix 0 E.piv i).toNat (ix 0 (ix [] E.X i) cols)
@[simp] theorem length_solTo (E : El) (cols : Int) : ∀ i, (solTo E cols i).length = cols.toNat
 | 0 => by simp [solTo]
 | i + 1 => by rw [solTo, List.length_set]; exact length_solTo E cols i
def offR (E : El) (cols : Int) : Prop := ∃ l ∈ E.X.drop E.piv.length, ix 0 l cols ≠ 0
def vecErr (f : Fld) (v : List Int) (n : Int) : Int := if (v.length : Int) ≠ n then 3 else entErr f v
noncomputable def sErr (f : Fld) (m : Mat) (b : List Int) : Int := if mErr f m = 0 then vecErr f b m.rows.length else mErr f m
def solX (f : Fld) (m : Mat) (b : List Int) : El := elim f (augL m.rows b) [] m.cols.toNat
open Classical in
noncomputable def solE (f : Fld) (m : Mat) (b : List Int) : Int := if sErr f m b = 0 then (if offR (solX f m b) m.cols then 11 else 0) else sErr f m b
noncomputable def solV (f : Fld) (m : Mat) (b : List Int) : List Int := if solE f m b = 0 then solTo (solX f m b) m.cols (solX f m b).piv.length else []
def turnL (rows : List (List Int)) (cols : Int) : List (List Int) := mapR (fun j => rows.map fun row => ix 0 row j) cols
def pickL (row set : List Int) : List Int := set.map fun j => ix 0 row j
theorem canM_ok {f : Fld} {m : Mat} (h : mErr f m = 0) : canM f m = ⟨m.cols, canR (canX f m)⟩ := if_pos h
theorem canP_ok {f : Fld} {m : Mat} (h : mErr f m = 0) : canP f m = (canX f m).piv := if_pos h
theorem piv_rng (f : Fld) (X Y : List (List Int)) : ∀ n : Nat, ∀ p ∈ (elim f X Y n).piv, 0 ≤ p ∧ p < n
 | 0, p, h => by cases h
 | n + 1, p, h => by
  have ih := piv_rng f X Y n
  simp only [elim, col] at h
  split at h
  ·split at h
   ·simp only [colK, List.mem_append, List.mem_singleton] at h
    rcases h with h | h
    ·have := ih p h; omega
    ·omega
   ·have := ih p h; omega
  ·have := ih p h; omega
theorem piv_ix (f : Fld) (X Y : List (List Int)) (n : Nat) {i : Int} (h0 : 0 ≤ i) (h1 : i < (elim f X Y n).piv.length) : 0 ≤ ix 0 (elim f X Y n).piv i ∧ ix 0 (elim f X Y n).piv i < n := piv_rng f X Y n _ (ix_mem 0 _ h0 h1)
theorem good_take {f : Fld} {w : Nat} {X : List (List Int)} (h : good f w X) (k : Nat) : good f w (X.take k) := fun l hl => h l (List.mem_of_mem_take hl)
theorem canR_good {f : Fld} (hS : Shape f) {w : Nat} {X : List (List Int)} (h : good f w X) (n : Nat) : good f w (canR (elim f X [] n)) := good_take (good_elim hS h n) _
theorem length_canR (f : Fld) (X : List (List Int)) (n : Nat) : (canR (elim f X [] n)).length = (elim f X [] n).piv.length := by
 have a := (length_elim f X [] n).1
 have b := (piv_le f X [] n).1
 unfold canR; rw [List.length_take]; omega
theorem notOut_set {f : Fld} {l : List Int} (h : ¬ outF f l) {x : Int} (x0 : 0 ≤ x) (x1 : x < f.q) (i : Nat) : ¬ outF f (l.set i x) := by
 rintro ⟨y, hy, hb⟩
 rcases List.mem_or_eq_of_mem_set hy with h1 | h1
 ·exact h ⟨y, h1, hb⟩
 ·rw [h1] at hb; exact hb ⟨x0, x1⟩
theorem notOut_zero {f : Fld} (hS : Shape f) (n : Nat) : ¬ outF f (List.replicate n 0) := by
 have hb := hS.bd
 rintro ⟨y, hy, hb2⟩
 rw [List.eq_of_mem_replicate hy] at hb2
 exact hb2 ⟨by omega, by omega⟩
theorem kerTo_good {f : Fld} (hS : Shape f) (R : List (List Int)) (P : List Int) (cols c : Int) : ∀ i, ¬ outF f (kerTo f R P cols c i)
 | 0 => by have hb := hS.bd; exact notOut_set (notOut_zero hS _) (by omega) (by omega) _
 | i + 1 => notOut_set (kerTo_good hS R P cols c i) (hS.negF_lt _).1 (hS.negF_lt _).2 _
theorem ker_good {f : Fld} (hS : Shape f) (R : List (List Int)) (P : List Int) (cols : Int) : ∀ c, good f cols.toNat (kerL f R P cols c)
 | 0 => fun l hl => by cases hl
 | c + 1 => by
  have ih := ker_good hS R P cols c
  rw [kerL]
  split
  ·exact ih
  ·intro l hl
   rcases List.mem_append.1 hl with h | h
   ·exact ih l h
   ·rw [List.mem_singleton] at h
    rw [h]
    exact ⟨length_kerTo _ _ _ _ _ _, kerTo_good hS _ _ _ _ _⟩
theorem notOut_app {f : Fld} {a b : List Int} (ha : ¬ outF f a) (hb : ¬ outF f b) : ¬ outF f (a ++ b) := by
 rintro ⟨y, hy, hn⟩
 rcases List.mem_append.1 hy with h | h
 ·exact ha ⟨y, h, hn⟩
 ·exact hb ⟨y, h, hn⟩
theorem ix_mixG {α : Type} (d : α) (l r : List α) {i : Int} (h0 : 0 ≤ i) (h1 : i < l.length) (h : l.length = r.length) : ix d (mixG l r i) i = ix d r i := by
 unfold mixG
 simp only [ix, List.getD]
 rw [List.getElem?_append_right (by simp; omega), List.getElem?_drop, List.length_take, show i.toNat + (i.toNat - min i.toNat l.length) = i.toNat by omega]
end Go.Cw
set_option linter.unusedVariables false
set_option linter.unusedSimpArgs false
set_option linter.unusedSectionVars false
namespace Go.Cw
instance : DecidableEq Mat := fun a b => decidable_of_iff (a.cols = b.cols ∧ a.rows = b.rows) (by cases a; cases b; simp)
end Go.Cw
set_option linter.unusedVariables false
set_option linter.unusedSimpArgs false
set_option linter.unusedSectionVars false
namespace Go.Cw
end Go.Cw
set_option linter.unusedVariables false
set_option linter.unusedSimpArgs false
set_option linter.unusedSectionVars false
namespace Go.Cw
namespace La
variable {K : Type} [Fi K]
theorem Span.left {A A' : Nat → Nat → K} {m : Nat} {v : Nat → K} (e : ∀ i j, i < m → A i j = A' i j) (h : Span A m v) : Span A' m v := by
 obtain ⟨c, rfl⟩ := h
 exact ⟨c, funext fun j => sm_congr fun i hi => by rw [e i j hi]⟩
theorem rref_ex (A : Nat → Nat → K) (m : Nat) : ∀ n : Nat, ∃ B p r, Rref B m n p r ∧ (∀ i, i < m → Span A m (B i)) ∧ (∀ i, i < m → Span B m (A i))
 | 0 => ⟨A, fun _ => 0, 0, Rref.zero _ _ _, fun i hi => Span.mem hi, fun i hi => Span.mem hi⟩
 | n + 1 => by
  obtain ⟨B, p, r, h1, h2, h3⟩ := rref_ex A m n
  by_cases hz : ∀ j, r ≤ j → j < m → B j n = 0
  ·exact ⟨B, p, r, h1.skip hz, h2, h3⟩
  ·obtain ⟨k, hk1, hk2, hne⟩ : ∃ k, r ≤ k ∧ k < m ∧ B k n ≠ 0 :=
    Classical.byContradiction fun hn => hz fun j h4 h5 => Classical.byContradiction fun h6 => hn ⟨j, h4, h5, h6⟩
   obtain ⟨q1, q2⟩ := colA_span B B hk1 hk2 hne
   refine ⟨colA B B r k n, fun i => if i = r then n else p i, r + 1, h1.step hk1 hk2 hne (if_pos rfl) (fun i hi => if_neg (by omega)) (fun i j _ => rfl), fun i hi => (q1 i hi).trans h2, fun i hi => (h3 i hi).trans q2⟩
theorem indep_le {A B : Nat → Nat → K} {r k : Nat} {q : Nat → Nat} (hq : ∀ i j, i < k → j < k → B i (q j) = if j = i then 1 else 0) (hB : ∀ i, i < k → ∃ v, Span A r v ∧ ∀ j, j < k → B i (q j) = v (q j)) : k ≤ r := by
 obtain ⟨C, p, s, h1, _, h3⟩ := rref_ex (fun i j => A i (q j)) r k
 have hB' : Rref (fun i j => B i (q j)) k k id k :=
  ⟨Nat.le_refl _, fun i j hij _ => hij, fun i hi => hi, fun i hi => by show B i (q i) = 1; rw [hq i i hi hi, if_pos rfl], fun i j hi hj hne => by show B j (q i) = 0; rw [hq j i hj hi, if_neg (Ne.symm hne)],
   fun i x hi hx => by show B i (q x) = 0; rw [hq i x hi (by have : x < i := hx; omega), if_neg (by have : x < i := hx; omega)], fun j x h4 h5 => by omega⟩
 have hsub : Sub (fun i j => B i (q j)) k C r k := fun i hi => by
  obtain ⟨v, ⟨c, rfl⟩, e⟩ := hB i hi
  exact ⟨lin c (fun i j => A i (q j)) r, Span.trans ⟨c, rfl⟩ h3, fun x hx => e x hx⟩
 exact Nat.le_trans (hB'.rank_le h1 hsub) h1.le
end La
section
variable {f : Fld} (h : FOk f)
theorem kv_zeros (n j : Nat) : kv h (List.replicate n 0) j = 0 := by
 unfold kv
 rw [show (List.replicate n (0 : Int)).getD j 0 = 0 by simp only [List.getD]; rw [List.getElem?_replicate]; split <;> rfl]
 exact ke_zero h
theorem kv_combTo {x : List Int} {rows : List (List Int)} {cols : Int} (hr : ∀ l ∈ rows, l.length ≤ cols.toNat) (j : Nat) : ∀ n : Nat, kv h (combTo f x rows cols n) j = La.sm (fun i => kv h x i * km h rows i j) n
 | 0 => kv_zeros h _ j
 | n + 1 => by
  have ih := kv_combTo (x := x) hr j n
  show _ = La.sm (fun i => kv h x i * km h rows i j) n + kv h x n * km h rows n j
  rw [← ih, show combTo f x rows cols (n + 1) = (if ix 0 x n = 0 then combTo f x rows cols n else addTo f (combTo f x rows cols n) (ix 0 x n) (ix [] rows n)) from rfl]
  split
  ·rename_i e
   rw [kv_ix h x, e, ke_zero, Fi.zero_mul, Fi.add_zero]
  ·rw [kv_addTo h (by
    rw [length_combTo, ix_nat]
    by_cases hn : n < rows.length
    ·exact hr _ (by rw [List.getD_eq_getElem?_getD, List.getElem?_eq_getElem hn]; exact List.getElem_mem hn)
    ·simp only [List.getD]; rw [List.getElem?_eq_none (by omega)]; exact Nat.zero_le _), kv_ix h x, ix_nat [] rows]
   rfl
theorem kv_comb {x : List Int} {rows : List (List Int)} {cols : Int} (hr : ∀ l ∈ rows, l.length ≤ cols.toNat) (hx : rows.length ≤ x.length) : kv h (comb f x rows cols) = La.lin (kv h x) (km h rows) rows.length := by
 funext j
 unfold comb
 rw [kv_combTo h hr j, show min x.length rows.length = rows.length by omega]
 rfl
theorem combTo_out (hS : Shape f) (x : List Int) (rows : List (List Int)) (cols : Int) : ∀ n, ¬ outF f (combTo f x rows cols n)
 | 0 => notOut_zero hS _
 | n + 1 => by
  unfold combTo
  split
  ·exact combTo_out hS x rows cols n
  ·exact out_addTo hS (combTo_out hS x rows cols n) _ _
theorem comb_out (hS : Shape f) (x : List Int) (rows : List (List Int)) (cols : Int) : ¬ outF f (comb f x rows cols) := combTo_out hS x rows cols _
theorem kv_ext {a b : List Int} (ha : ¬ outF f a) (hb : ¬ outF f b) (hl : a.length = b.length) (e : ∀ j, j < a.length → kv h a j = kv h b j) : a = b := by
 refine ext_ix 0 hl fun j j0 j1 => ?_
 have qa := ix_ok h.1 ha j
 have qb := ix_ok h.1 hb j
 have := e j.toNat (by omega)
 rw [kv_ix, kv_ix, show ((j.toNat : Nat) : Int) = j by omega] at this
 exact ke_inj h qa.1 qa.2 qb.1 qb.2 this
theorem elim_span {w : Nat} {X : List (List Int)} (hX : good f w X) (n : Nat) : (∀ i, i < X.length → La.Span (km h X) X.length (km h (elim f X [] n).X i)) ∧ (∀ i, i < X.length → La.Span (km h (elim f X [] n).X) X.length (km h X i)) := by
 refine elim_ind h hX (wide_nil 0) (.inl rfl) (Φ := fun A _ => (∀ i, i < X.length → La.Span (km h X) X.length (A i)) ∧ (∀ i, i < X.length → La.Span A X.length (km h X i))) ?_ ?_ ?_ n
 ·rintro A C A' C' e _ ⟨h1, h2⟩
  exact ⟨fun i hi => (h1 i hi).congr (fun j => e i j hi), fun i hi => (h2 i hi).left e⟩
 ·rintro A C r k c hr hk hne ⟨h1, h2⟩
  obtain ⟨q1, q2⟩ := colA_span A A hr hk hne
  exact ⟨fun i hi => (q1 i hi).trans h1, fun i hi => (h2 i hi).trans q2⟩
 ·exact ⟨fun i hi => La.Span.mem hi, fun i hi => La.Span.mem hi⟩
theorem pvN_ix (X Y : List (List Int)) (n : Nat) {i : Nat} (hi : i < (elim f X Y n).piv.length) : ((pvN (elim f X Y n).piv i : Nat) : Int) = ix 0 (elim f X Y n).piv i := by
 have := piv_ix f X Y n (i := (i : Int)) (by omega) (by omega)
 rw [ix_nat] at this ⊢
 unfold pvN
 omega
end
section
variable {f : Fld} {w n : Nat} {X : List (List Int)}
theorem piv_inc (h : FOk f) (hX : good f w X) {i j : Int} (i0 : 0 ≤ i) (ij : i < j) (j1 : j < (elim f X [] n).piv.length) : ix 0 (elim f X [] n).piv i < ix 0 (elim f X [] n).piv j := by
 have := (elim_rref h hX (wide_nil 0) (.inl rfl) n).inc i.toNat j.toNat (by omega) (by omega)
 have e1 := pvN_ix (f := f) X [] n (i := i.toNat) (by omega)
 have e2 := pvN_ix (f := f) X [] n (i := j.toNat) (by omega)
 rw [show ((i.toNat : Nat) : Int) = i by omega] at e1
 rw [show ((j.toNat : Nat) : Int) = j by omega] at e2
 omega
theorem can_ent (h : FOk f) (hX : good f w X) {i j : Int} (i0 : 0 ≤ i) (i1 : i < (elim f X [] n).piv.length) (j0 : 0 ≤ j) (j1 : j < X.length) : ix 0 (ix [] (elim f X [] n).X j) (ix 0 (elim f X [] n).piv i) = if j = i then 1 else 0 := by
 have rr := elim_rref h hX (wide_nil 0) (.inl rfl) n
 have hl := (length_elim f X [] n).1
 have hb := h.1.bd
 have e1 := pvN_ix (f := f) X [] n (i := i.toNat) (by omega)
 rw [show ((i.toNat : Nat) : Int) = i by omega] at e1
 have hr := good_ixlt h.1 (good_elim h.1 (Y := []) hX n) j0 (by omega) (ix 0 (elim f X [] n).piv i)
 refine ke_inj (h := h) hr.1 hr.2 (by split <;> omega) (by split <;> omega) ?_
 have := km_ix h (elim f X [] n).X j.toNat (pvN (elim f X [] n).piv i.toNat)
 rw [show ((j.toNat : Nat) : Int) = j by omega, e1] at this
 rw [← this]
 by_cases e : j = i
 ·rw [if_pos e, ke_one, show j.toNat = i.toNat by omega]; exact rr.one _ (by omega)
 ·rw [if_neg e, ke_zero]; exact rr.clr _ _ (by omega) (by omega) (by omega)
theorem can_lead (h : FOk f) (hX : good f w X) {i x : Int} (i0 : 0 ≤ i) (i1 : i < (elim f X [] n).piv.length) (x0 : 0 ≤ x) (x1 : x < ix 0 (elim f X [] n).piv i) : ix 0 (ix [] (elim f X [] n).X i) x = 0 := by
 have rr := elim_rref h hX (wide_nil 0) (.inl rfl) n
 have hl := (length_elim f X [] n).1
 have hpl := piv_le f X [] n
 have hb := h.1.bd
 have e1 := pvN_ix (f := f) X [] n (i := i.toNat) (by omega)
 rw [show ((i.toNat : Nat) : Int) = i by omega] at e1
 have hr := good_ixlt h.1 (good_elim h.1 (Y := []) hX n) i0 (by omega) x
 refine ke_inj (h := h) hr.1 hr.2 (by omega) (by omega) ?_
 have := km_ix h (elim f X [] n).X i.toNat x.toNat
 rw [show ((i.toNat : Nat) : Int) = i by omega, show ((x.toNat : Nat) : Int) = x by omega] at this
 rw [← this, ke_zero]
 exact rr.lead _ _ (by omega) (by omega)
theorem ix_canR {E : El} {i : Int} (i0 : 0 ≤ i) (i1 : i < E.piv.length) : ix [] (canR E) i = ix [] E.X i := by
 unfold canR
 simp only [ix, List.getD]
 rw [List.getElem?_take, if_pos (by omega)]
theorem km_canR (h : FOk f) {E : El} {i : Nat} (i1 : i < E.piv.length) : km h (canR E) i = km h E.X i := by
 unfold km canR
 simp only [List.getD]
 rw [List.getElem?_take, if_pos i1]
theorem ix_pickL {row set : List Int} {i : Int} (i0 : 0 ≤ i) (i1 : i < set.length) : ix 0 (pickL row set) i = ix 0 row (ix 0 set i) := by
 unfold pickL
 simp only [ix, List.getD, List.getElem?_map]
 rw [List.getElem?_eq_getElem (by omega)]
 rfl
@[simp] theorem length_pickL (row set : List Int) : (pickL row set).length = set.length := by simp [pickL]
theorem can_row (h : FOk f) (hX : good f n X) {row : List Int} (hm : row ∈ X) : comb f (pickL row (elim f X [] n).piv) (canR (elim f X [] n)) n = row := by
 have rr := elim_rref h hX (wide_nil 0) (.inl rfl) n
 have hsp := elim_span h hX n
 have hg := hX row hm
 have hlc := length_canR f X n
 have hgc := canR_good h.1 hX n
 obtain ⟨k, hk, hke⟩ := List.mem_iff_getElem.1 hm
 have hkm : km h X k = kv h row := by
  unfold km; simp only [List.getD]; rw [List.getElem?_eq_getElem hk, hke]; rfl
 refine kv_ext h (comb_out h.1 _ _ _) hg.2 (by rw [length_comb, hg.1]; omega) fun j hj => ?_
 rw [length_comb] at hj
 have hsv := hsp.2 k hk
 rw [hkm] at hsv
 rw [kv_comb h (fun l hl => by have := (hgc l hl).1; omega) (by simp; omega), rr.span hsv (by omega), hlc]
 refine La.sm_congr fun i hi => ?_
 rw [km_canR h hi, kv_ix, ix_pickL (by omega) (by omega), ← pvN_ix X [] n hi, ← kv_ix]
theorem can_uniq (h : FOk f) {X' : List (List Int)} (hX : good f n X) (hX' : good f n X') (h1 : ∀ i, i < X.length → La.Span (km h X') X'.length (km h X i)) (h2 : ∀ i, i < X'.length → La.Span (km h X) X.length (km h X' i)) :
  (elim f X [] n).piv = (elim f X' [] n).piv ∧ canR (elim f X [] n) = canR (elim f X' [] n) := by
 have r1 := elim_rref h hX (wide_nil 0) (.inl rfl) n
 have r2 := elim_rref h hX' (wide_nil 0) (.inl rfl) n
 have s1 := elim_span h hX n
 have s2 := elim_span h hX' n
 obtain ⟨e1, e2, e3⟩ := r1.uniq r2 (La.Sub.of fun i hi => ((s1.1 i hi).trans h1).trans s2.2) (La.Sub.of fun i hi => ((s2.1 i hi).trans h2).trans s1.2)
 have hl1 := length_canR f X n
 have hl2 := length_canR f X' n
 refine ⟨ext_ix 0 e1 fun j j0 j1 => ?_, ext_ix [] (by omega) fun j j0 j1 => ?_⟩
 ·have a1 := pvN_ix (f := f) X [] n (i := j.toNat) (by omega)
  have a2 := pvN_ix (f := f) X' [] n (i := j.toNat) (by omega)
  have := e2 j.toNat (by omega)
  rw [show ((j.toNat : Nat) : Int) = j by omega] at a1 a2
  omega
 ·have g1 := canR_good h.1 hX n _ (ix_mem [] _ j0 j1)
  have g2 := canR_good h.1 hX' n _ (ix_mem [] _ j0 (show j < (canR (elim f X' [] n)).length by omega))
  refine kv_ext h g1.2 g2.2 (by rw [g1.1, g2.1]) fun x hx => ?_
  have := e3 j.toNat x (by omega) (by omega)
  rw [← km_canR h (by omega), ← km_canR h (by omega)] at this
  have q1 : kv h (ix [] (canR (elim f X [] n)) j) = km h (canR (elim f X [] n)) j.toNat := by
   have := ix_nat [] (canR (elim f X [] n)) j.toNat
   rw [show ((j.toNat : Nat) : Int) = j by omega] at this
   rw [this]; rfl
  have q2 : kv h (ix [] (canR (elim f X' [] n)) j) = km h (canR (elim f X' [] n)) j.toNat := by
   have := ix_nat [] (canR (elim f X' [] n)) j.toNat
   rw [show ((j.toNat : Nat) : Int) = j by omega] at this
   rw [this]; rfl
  rw [q1, q2]; exact this
end
end Go.Cw
namespace Go.Cw
structure CanF (f : Fld) (m : Mat) : Prop where
 cols : (canM f m).cols = m.cols
 len : (canM f m).rows.length = (canP f m).length
 le : (canP f m).length ≤ m.rows.length
 ok : mErr f (canM f m) = 0
 rng : ∀ i : Int, 0 ≤ i → i < (canP f m).length → 0 ≤ ix 0 (canP f m) i ∧ ix 0 (canP f m) i < m.cols
 inc : ∀ i j : Int, 0 ≤ i → i < j → j < (canP f m).length → ix 0 (canP f m) i < ix 0 (canP f m) j
 ent : ∀ i j : Int, 0 ≤ i → i < (canP f m).length → 0 ≤ j → j < (canP f m).length → ix 0 (ix [] (canM f m).rows j) (ix 0 (canP f m) i) = if j = i then 1 else 0
 lead : ∀ i x : Int, 0 ≤ i → i < (canP f m).length → 0 ≤ x → x < ix 0 (canP f m) i → ix 0 (ix [] (canM f m).rows i) x = 0
 row : ∀ row ∈ m.rows, comb f (pickL row (canP f m)) (canM f m).rows (canM f m).cols = row
 wid : ∀ i : Int, 0 ≤ i → i < (canM f m).rows.length → ((ix [] (canM f m).rows i).length : Int) = m.cols
theorem can_facts {f : Fld} {m : Mat} (hm : mErr f m = 0) : CanF f m := by
 have hF := (mErr_zero.1 hm).1
 have hme := (mErr_zero.1 hm).2
 have hsz := mat_size hme
 have hgm := mat_good hme
 have hl := length_canR f m.rows m.cols.toNat
 have hp := piv_le f m.rows [] m.cols.toNat
 have e1 : canM f m = ⟨m.cols, canR (elim f m.rows [] m.cols.toNat)⟩ := canM_ok hm
 have e2 : canP f m = (elim f m.rows [] m.cols.toNat).piv := canP_ok hm
 have hgc := canR_good hF.1 hgm m.cols.toNat
 have hc : ((m.cols.toNat : Nat) : Int) = m.cols := by omega
 have hw : ∀ i : Int, 0 ≤ i → i < (canR (elim f m.rows [] m.cols.toNat)).length → ((ix [] (canR (elim f m.rows [] m.cols.toNat)) i).length : Int) = m.cols := fun i i0 i1 => by
  have := wide_ix (good_wide hgc) i0 i1
  omega
 constructor <;> (try rw [e1]) <;> (try rw [e2])
 ·exact hl
 ·omega
 ·exact mErr_zero.2 ⟨hF, good_mat hsz.1 hsz.2.1 (by show (canR (elim f m.rows [] m.cols.toNat)).length ≤ 256; omega) hgc⟩
 ·intro i i0 i1
  have := piv_ix f m.rows [] m.cols.toNat i0 i1
  omega
 ·exact fun i j => piv_inc hF hgm
 ·intro i j i0 i1 j0 j1
  rw [show (Mat.mk m.cols (canR (elim f m.rows [] m.cols.toNat))).rows = canR (elim f m.rows [] m.cols.toNat) from rfl, ix_canR j0 j1]
  exact can_ent hF hgm i0 i1 j0 (by omega)
 ·intro i x i0 i1 x0 x1
  rw [show (Mat.mk m.cols (canR (elim f m.rows [] m.cols.toNat))).rows = canR (elim f m.rows [] m.cols.toNat) from rfl, ix_canR i0 i1]
  exact can_lead hF hgm i0 i1 x0 x1
 ·intro row hr
  have := can_row hF hgm hr
  rw [hc] at this
  exact this
 ·exact hw
end Go.Cw
namespace Go.Cw
theorem mem_ix {α : Type} (d : α) {l : List α} {x : α} (h : x ∈ l) : ∃ z : Int, 0 ≤ z ∧ z < l.length ∧ x = ix d l z := by
 obtain ⟨k, hk, e⟩ := List.mem_iff_getElem.1 h
 refine ⟨k, by omega, by omega, ?_⟩
 rw [ix_nat, List.getD_eq_getElem?_getD, List.getElem?_eq_getElem hk]
 exact e.symm
end Go.Cw
set_option linter.unusedVariables false
set_option linter.unusedSimpArgs false
set_option linter.unusedSectionVars false
namespace Go.Cw
section
variable {f : Fld} (h : FOk f)
end
def dots (f : Fld) (rows : List (List Int)) (x : List Int) : List Int := rows.map fun row => dotF f row x
@[simp] theorem length_dots (f : Fld) (rows : List (List Int)) (x : List Int) : (dots f rows x).length = rows.length := by simp [dots]
section
variable {f : Fld} {n : Nat} {X : List (List Int)} {x : List Int}
end
structure SolF (f : Fld) (m : Mat) (x : List Int) : Prop where
 err : solE f m (dots f m.rows x) = 0
 len : ((solV f m (dots f m.rows x)).length : Int) = m.cols
 dot : ∀ q : Int, 0 ≤ q → q < m.rows.length → dotF f (ix [] m.rows q) (solV f m (dots f m.rows x)) = ix 0 (dots f m.rows x) q
 sup : ∀ i : Int, 0 ≤ i → ix 0 (solV f m (dots f m.rows x)) i ≠ 0 → i ∈ canP f m
end Go.Cw
namespace Go.Cw
end Go.Cw
set_option linter.unusedVariables false
set_option linter.unusedSimpArgs false
set_option linter.unusedSectionVars false
namespace Go.Cw
def frC (P : List Int) : Nat → List Nat
 | 0 => []
 | c + 1 => if (c : Int) ∈ P then frC P c else frC P c ++ [c]
theorem frC_mem {P : List Int} {x : Nat} : ∀ {c : Nat}, x ∈ frC P c → x < c ∧ (x : Int) ∉ P
 | 0, h => by cases h
 | c + 1, h => by
  unfold frC at h
  split at h
  ·have := frC_mem h; exact ⟨by omega, this.2⟩
  ·rename_i hc
   rcases List.mem_append.1 h with h | h
   ·have := frC_mem h; exact ⟨by omega, this.2⟩
   ·rw [List.mem_singleton] at h; subst h; exact ⟨by omega, hc⟩
theorem frC_nodup (P : List Int) : ∀ c, (frC P c).Nodup
 | 0 => List.nodup_nil
 | c + 1 => by
  unfold frC
  split
  ·exact frC_nodup P c
  ·refine List.nodup_append.2 ⟨frC_nodup P c, by simp, fun x hx y hy => ?_⟩
   rw [List.mem_singleton] at hy
   have := frC_mem hx
   omega
theorem kerL_map (f : Fld) (R : List (List Int)) (P : List Int) (cols : Int) : ∀ c, kerL f R P cols c = (frC P c).map fun x : Nat => kerTo f R P cols (x : Int) P.length
 | 0 => rfl
 | c + 1 => by
  unfold frC
  rw [kerL, kerL_map f R P cols c]
  split
  ·rfl
  ·simp
theorem cnt_succ (c : Int) : ∀ P : List Int, (P.filter fun p => decide (p < c + 1)).length = (P.filter fun p => decide (p < c)).length + (P.filter fun p => decide (p = c)).length
 | [] => rfl
 | p :: P => by
  have ih := cnt_succ c P
  simp only [List.filter_cons]
  by_cases h1 : p < c
  ·rw [if_pos (by simp; omega), if_pos (by simpa using h1), if_neg (by simp; omega)]
   simp only [List.length_cons]; omega
  ·by_cases h3 : p = c
   ·rw [if_pos (by simp; omega), if_neg (by simpa using h1), if_pos (by simpa using h3)]
    simp only [List.length_cons]; omega
   ·rw [if_neg (by simp; omega), if_neg (by simpa using h1), if_neg (by simpa using h3)]
    exact ih
theorem cnt_one (c : Int) : ∀ {P : List Int}, P.Nodup → (P.filter fun p => decide (p = c)).length = if c ∈ P then 1 else 0
 | [], _ => rfl
 | p :: P, h => by
  obtain ⟨h1, h2⟩ := List.nodup_cons.1 h
  have ih := cnt_one c h2
  rw [List.filter_cons]
  by_cases e : p = c
  ·subst e
   rw [if_neg h1] at ih
   simp [ih]
  ·rw [if_neg (by simpa using e), ih]
   have : (c ∈ p :: P) ↔ c ∈ P := by simp [Ne.symm e]
   by_cases hc : c ∈ P
   ·rw [if_pos hc, if_pos (this.2 hc)]
   ·rw [if_neg hc, if_neg (fun h => hc (this.1 h))]
theorem frC_len {P : List Int} (hP : P.Nodup) (h0 : ∀ p ∈ P, 0 ≤ p) : ∀ c : Nat, (frC P c).length + (P.filter fun p => decide (p < (c : Int))).length = c
 | 0 => by
  have : (P.filter fun p => decide (p < ((0 : Nat) : Int))) = [] := List.filter_eq_nil_iff.2 fun p hp => by have := h0 p hp; simp; omega
  rw [this]; rfl
 | c + 1 => by
  have ih := frC_len hP h0 c
  have h1 := cnt_succ (c : Int) P
  have h2 := cnt_one (c : Int) hP
  rw [show (((c + 1 : Nat) : Nat) : Int) = (c : Int) + 1 by omega, h1, h2]
  unfold frC
  split
  ·omega
  ·simp only [List.length_append, List.length_cons, List.length_nil]; omega
section
variable {f : Fld} {n : Nat} {X : List (List Int)}
theorem piv_nodup (h : FOk f) (hX : good f n X) : (elim f X [] n).piv.Nodup := by
 rw [List.Nodup, List.pairwise_iff_getElem]
 intro i j hi hj hij
 have := piv_inc (n := n) h hX (i := (i : Int)) (j := (j : Int)) (by omega) (by omega) (by omega)
 rw [ix_nat, ix_nat, List.getD_eq_getElem?_getD, List.getD_eq_getElem?_getD, List.getElem?_eq_getElem hi, List.getElem?_eq_getElem hj] at this
 simp only [Option.getD_some] at this
 omega
theorem kerX_len (h : FOk f) (hX : good f n X) : (kerX f X n).length + (elim f X [] n).piv.length = n := by
 have hr := piv_rng f X [] n
 have := frC_len (piv_nodup h hX) (fun p hp => (hr p hp).1) n
 have hall : ((elim f X [] n).piv.filter fun p => decide (p < (n : Int))) = (elim f X [] n).piv := List.filter_eq_self.2 fun p hp => by have := hr p hp; simpa using this.2
 rw [hall] at this
 show (kerL f _ _ _ _).length + _ = _
 rw [kerL_map, List.length_map]
 exact this
theorem kerTo_supp {R : List (List Int)} {P : List Int} {cols c : Int} (c0 : 0 ≤ c) (hp : ∀ p ∈ P, 0 ≤ p) : ∀ (k : Nat) (j : Int), k ≤ P.length → 0 ≤ j → ix 0 (kerTo f R P cols c k) j ≠ 0 → j = c ∨ ∃ i : Int, 0 ≤ i ∧ i < k ∧ ix 0 P i = j
 | 0, j, _, j0, hne => by
  by_cases e : j = c
  ·exact .inl e
  ·exfalso; apply hne
   show ix 0 ((List.replicate cols.toNat (0 : Int)).set c.toNat 1) j = 0
   simp only [ix, List.getD]
   rw [List.getElem?_set_ne (by omega), List.getElem?_replicate]
   split <;> rfl
 | k + 1, j, hk, j0, hne => by
  have h0 := hp _ (ix_mem 0 P (i := (k : Int)) (by omega) (by omega))
  by_cases e : ix 0 P k = j
  ·exact .inr ⟨k, by omega, by omega, e⟩
  ·have : ix 0 (kerTo f R P cols c (k + 1)) j = ix 0 (kerTo f R P cols c k) j := by
    show ix 0 ((kerTo f R P cols c k).set (ix 0 P k).toNat _) j = _
    simp only [ix, List.getD]
    rw [List.getElem?_set_ne]
    intro e2
    apply e
    simp only [ix, List.getD] at h0 ⊢
    omega
   rw [this] at hne
   rcases kerTo_supp c0 hp k j (by omega) j0 hne with h1 | ⟨i, i0, i1, i2⟩
   ·exact .inl h1
   ·exact .inr ⟨i, i0, by omega, i2⟩
theorem kerTo_one {R : List (List Int)} {P : List Int} {cols c : Int} (c0 : 0 ≤ c) (c1 : c < cols) (hp : ∀ p ∈ P, 0 ≤ p) (hc : c ∉ P) : ∀ (k : Nat), k ≤ P.length → ix 0 (kerTo f R P cols c k) c = 1
 | 0, _ => by
  show ix 0 ((List.replicate cols.toNat (0 : Int)).set c.toNat 1) c = 1
  rw [ix_setE 0 _ _ c0 (by simp; omega) c0, if_pos rfl]
 | k + 1, hk => by
  have hm := ix_mem 0 P (i := (k : Int)) (by omega) (by omega)
  have h0 := hp _ hm
  rw [← kerTo_one c0 c1 hp hc k (by omega)]
  show ix 0 ((kerTo f R P cols c k).set (ix 0 P k).toNat _) c = _
  simp only [ix, List.getD]
  rw [List.getElem?_set_ne]
  intro e2
  apply hc
  have : ix 0 P k = c := by simp only [ix, List.getD] at h0 ⊢; omega
  rw [← this]; exact hm
theorem kerX_get (f : Fld) (X : List (List Int)) (n : Nat) {i : Nat} (hi : i < (kerX f X n).length) : ∃ c : Nat, c = (frC (elim f X [] n).piv n).getD i 0 ∧ c ∈ frC (elim f X [] n).piv n ∧ (kerX f X n).getD i [] = kerTo f (canR (elim f X [] n)) (elim f X [] n).piv n c (elim f X [] n).piv.length := by
 have e : kerX f X n = (frC (elim f X [] n).piv n).map fun c : Nat => kerTo f (canR (elim f X [] n)) (elim f X [] n).piv n (c : Int) (elim f X [] n).piv.length := by
  show kerL f _ _ _ _ = _
  rw [kerL_map]; rfl
 have hl : i < (frC (elim f X [] n).piv n).length := by rw [e, List.length_map] at hi; exact hi
 refine ⟨_, rfl, ?_, ?_⟩
 ·rw [List.getD_eq_getElem?_getD, List.getElem?_eq_getElem hl]; exact List.getElem_mem hl
 ·rw [e]
  simp only [List.getD, List.getElem?_map]
  rw [List.getElem?_eq_getElem hl]
  rfl
theorem kerX_good (hS : Shape f) (X : List (List Int)) (n : Nat) : good f n (kerX f X n) := ker_good hS _ _ _ _
theorem null_dim (h : FOk f) (hX : good f n X) : (elim f X [] n).piv.length + (nullR f X n).length = n := by
 have hY := kerX_good h.1 X n
 have hk := kerX_len h hX
 have hlc : (nullR f X n).length = (elim f (kerX f X n) [] n).piv.length := length_canR f (kerX f X n) n
 have hpl := piv_le f (kerX f X n) [] n
 have rr := elim_rref h hY (wide_nil 0) (.inl rfl) n
 have s1 := elim_span h hY n
 have hpr := piv_rng f X [] n
 have hkl : (kerX f X n).length = (frC (elim f X [] n).piv n).length := by
  show (kerL f _ _ _ _).length = _
  rw [kerL_map, List.length_map]; rfl
 have hle : (kerX f X n).length ≤ (elim f (kerX f X n) [] n).piv.length := by
  refine La.indep_le (A := km h (elim f (kerX f X n) [] n).X) (B := km h (kerX f X n)) (q := fun j => (frC (elim f X [] n).piv n).getD j 0) (fun i j hi hj => ?_) (fun i hi => ?_)
  ·obtain ⟨c, hc1, hc2, hc3⟩ := kerX_get f X n hi
   obtain ⟨d, hd1, hd2, _⟩ := kerX_get f X n hj
   have hcm := frC_mem hc2
   have hdm := frC_mem hd2
   show kv h ((kerX f X n).getD i []) ((frC (elim f X [] n).piv n).getD j 0) = _
   rw [hc3, ← hd1, kv_ix]
   by_cases e : j = i
   ·have : d = c := by rw [hc1, hd1, e]
    rw [if_pos e, this, kerTo_one (by omega) (by omega) (fun p hp => (hpr p hp).1) hcm.2 _ (Nat.le_refl _), ke_one]
   ·rw [if_neg e]
    have hz : ix 0 (kerTo f (canR (elim f X [] n)) (elim f X [] n).piv n c (elim f X [] n).piv.length) (d : Nat) = 0 := by
     apply Classical.byContradiction
     intro hne
     rcases kerTo_supp (by omega) (fun p hp => (hpr p hp).1) _ _ (Nat.le_refl _) (by omega) hne with e2 | ⟨z, z0, z1, z2⟩
     ·apply e
      have hcd : d = c := by omega
      rw [hc1, hd1, List.getD_eq_getElem?_getD, List.getD_eq_getElem?_getD, List.getElem?_eq_getElem (show i < (frC (elim f X [] n).piv n).length by omega), List.getElem?_eq_getElem (show j < (frC (elim f X [] n).piv n).length by omega)] at hcd
      exact (List.getElem_inj (frC_nodup _ _)).1 hcd
     ·exact hdm.2 (by rw [← z2]; exact ix_mem 0 _ z0 z1)
    rw [hz, ke_zero]
  ·refine ⟨La.lin (fun t => km h (kerX f X n) i (pvN (elim f (kerX f X n) [] n).piv t)) (km h (elim f (kerX f X n) [] n).X) (elim f (kerX f X n) [] n).piv.length, ⟨_, rfl⟩, fun j hj => ?_⟩
   obtain ⟨d, hd1, hd2, _⟩ := kerX_get f X n hj
   have hdm := frC_mem hd2
   exact rr.span (s1.2 i hi) (by show (frC (elim f X [] n).piv n).getD j 0 < n; omega)
 omega
end
structure KerF (f : Fld) (m : Mat) : Prop where
 orth : ∀ i j : Int, 0 ≤ i → i < (kerM f m).rows.length → 0 ≤ j → j < m.rows.length → dotF f (ix [] (kerM f m).rows i) (ix [] m.rows j) = 0
 dim : ((canP f m).length : Int) + (kerM f m).rows.length = m.cols
end Go.Cw
set_option linter.unusedVariables false
set_option linter.unusedSimpArgs false
set_option linter.unusedSectionVars false
namespace Go.Cw
def dgs (q : Int) : Nat → Int → List Int
 | 0, _ => []
 | k + 1, v => dgs q k (v / q) ++ [v % q]
@[simp] theorem length_dgs (q : Int) : ∀ (k : Nat) (v : Int), (dgs q k v).length = k
 | 0, _ => rfl
 | k + 1, v => by simp [dgs, length_dgs q k]
theorem dgs_next {q a v : Int} (h0 : 0 ≤ a) (h1 : a < q) (r : Nat) : dgs q (r + 1) (v * q + a) = dgs q r v ++ [a] := by
 have hq : q ≠ 0 := by omega
 have e1 : (v * q + a) / q = v := by
  rw [Int.add_comm, Int.add_mul_ediv_right _ _ hq, Int.ediv_eq_zero_of_lt h0 h1, Int.zero_add]
 have e2 : (v * q + a) % q = a := by
  rw [Int.add_comm, Int.add_mul_emod_self_right, Int.emod_eq_of_lt h0 h1]
 show dgs q r ((v * q + a) / q) ++ [(v * q + a) % q] = _
 rw [e1, e2]
def wkF (f : Fld) (N : Int) (G : List (List Int)) (r : Nat) (v : Int) : List Int := combTo f (dgs f.q r v) G N r
def wdF (f : Fld) (N : Int) (G : List (List Int)) (v : Int) : List Int := comb f (dgs f.q G.length v) G N
@[simp] theorem length_wkF (f : Fld) (N : Int) (G : List (List Int)) (r : Nat) (v : Int) : (wkF f N G r v).length = N.toNat := length_combTo _ _ _ _ _
@[simp] theorem length_wdF (f : Fld) (N : Int) (G : List (List Int)) (v : Int) : (wdF f N G v).length = N.toNat := length_comb _ _ _ _
end Go.Cw
set_option linter.unusedVariables false
set_option linter.unusedSimpArgs false
set_option linter.unusedSectionVars false
namespace Go.Cw
structure Cod where
 F : Fld
 N : Int
 Gen : List (List Int)
namespace Cod
def m (c : Cod) : Mat := ⟨c.N, c.Gen⟩
def no : Cod := ⟨⟨0, 0, []⟩, 0, []⟩
end Cod
noncomputable def spcE (f : Fld) (m : Mat) : Int := if mErr f m = 0 then (if (canM f m).rows = m.rows then 0 else 5) else mErr f m
noncomputable def codE (c : Cod) : Int := if FOk c.F then (if c.N < 1 ∨ 64 < c.N then 4 else spcE c.F c.m) else 1
structure COk (c : Cod) : Prop where
 fld : FOk c.F
 n1 : 1 ≤ c.N
 n64 : c.N ≤ 64
 mat : mErr c.F c.m = 0
 can : (canM c.F c.m).rows = c.Gen
theorem codE_zero {c : Cod} : codE c = 0 ↔ COk c := by
 unfold codE spcE
 constructor
 ·intro h
  by_cases h1 : FOk c.F
  ·rw [if_pos h1] at h
   by_cases h2 : c.N < 1 ∨ 64 < c.N
   ·rw [if_pos h2] at h; cases h
   ·rw [if_neg h2] at h
    by_cases h3 : mErr c.F c.m = 0
    ·rw [if_pos h3] at h
     by_cases h4 : (canM c.F c.m).rows = c.m.rows
     ·exact ⟨h1, by omega, by omega, h3, h4⟩
     ·rw [if_neg h4] at h; cases h
    ·rw [if_neg h3] at h; exact absurd h h3
  ·rw [if_neg h1] at h; cases h
 ·intro h
  have h4 : (canM c.F c.m).rows = c.m.rows := h.can
  rw [if_pos h.fld, if_neg (by have := h.n1; have := h.n64; omega), if_pos h.mat, if_pos h4]
namespace COk
variable {c : Cod}
theorem gmat (h : COk c) : matErr c.F c.m = 0 := by have := h.mat; unfold mErr at this; rwa [if_pos h.fld] at this
theorem sz (h : COk c) : 0 ≤ c.N ∧ c.N ≤ 256 ∧ (c.Gen.length : Int) ≤ 256 := mat_size h.gmat
theorem row (h : COk c) {i : Int} (i0 : 0 ≤ i) (i1 : i < c.Gen.length) : ((ix [] c.Gen i).length : Int) = c.N := row_len h.gmat i0 i1
theorem len (h : COk c) : c.Gen.length ≤ 256 := by have := h.sz; omega
end COk
def nxW (f : Fld) (w : List Int) (a : Int) (u : List Int) : List Int := if a = 0 then w else addTo f w a u
@[simp] theorem length_nxW (f : Fld) (w : List Int) (a : Int) (u : List Int) : (nxW f w a u).length = w.length := by unfold nxW; split <;> simp
noncomputable def sizE (c : Cod) : Int := if codE c = 0 then expE c.F.q c.Gen.length 65536 else codE c
theorem sizE_zero {c : Cod} : sizE c = 0 ↔ COk c ∧ c.F.q ^ c.Gen.length ≤ 65536 := by
 unfold sizE expE
 rw [Int.toNat_natCast]
 constructor
 ·intro h
  by_cases h1 : codE c = 0
  ·rw [if_pos h1] at h
   refine ⟨codE_zero.1 h1, ?_⟩
   by_cases h2 : c.F.q ^ c.Gen.length ≤ 65536
   ·exact h2
   ·rw [if_neg h2] at h; cases h
  ·rw [if_neg h1] at h; exact absurd h h1
 ·rintro ⟨h1, h2⟩
  rw [if_pos (codE_zero.2 h1), if_pos h2]
end Go.Cw
set_option linter.unusedVariables false
set_option linter.unusedSimpArgs false
set_option linter.unusedSectionVars false
namespace Go.Cw
def dstTo (a b : List Int) : Nat → Int
 | 0 => 0
 | k + 1 => dstTo a b k + (if ix 0 a k ≠ ix 0 b k then 1 else 0)
def dst (a b : List Int) : Int := dstTo a b (min a.length b.length)
theorem dstTo_bd (a b : List Int) : ∀ k : Nat, 0 ≤ dstTo a b k ∧ dstTo a b k ≤ k
 | 0 => ⟨Int.le_refl _, Int.le_refl _⟩
 | k + 1 => by
  have := dstTo_bd a b k
  unfold dstTo
  split <;> omega
theorem dstTo_congr {a b a' b' : List Int} : ∀ k : Nat, (∀ i : Int, 0 ≤ i → i < k → (ix 0 a i ≠ ix 0 b i ↔ ix 0 a' i ≠ ix 0 b' i)) → dstTo a b k = dstTo a' b' k
 | 0, _ => rfl
 | k + 1, h => by
  unfold dstTo
  rw [dstTo_congr k fun i h0 h1 => h i h0 (by omega)]
  have := h k (by omega) (by omega)
  by_cases e : ix 0 a k ≠ ix 0 b k
  ·rw [if_pos e, if_pos (this.1 e)]
  ·rw [if_neg e, if_neg fun h => e (this.2 h)]
theorem ix_zeros (n : Nat) (i : Int) : ix 0 (List.replicate n (0 : Int)) i = 0 := by
 unfold ix
 rw [List.getD_eq_getElem?_getD, List.getElem?_replicate]
 split <;> rfl
theorem dst_bd (a b : List Int) : 0 ≤ dst a b ∧ dst a b ≤ b.length := by have := dstTo_bd a b (min a.length b.length); unfold dst; omega
theorem dst_le (a b : List Int) : dst a b ≤ a.length := by have := dstTo_bd a b (min a.length b.length); unfold dst; omega
theorem dst_symm (a b : List Int) : dst a b = dst b a := by
 unfold dst
 rw [Nat.min_comm]
 exact dstTo_congr _ fun i _ _ => by constructor <;> exact fun h e => h e.symm
theorem dstTo_zero {a b : List Int} : ∀ {k : Nat}, dstTo a b k = 0 ↔ ∀ i : Int, 0 ≤ i → i < k → ix 0 a i = ix 0 b i
 | 0 => ⟨fun _ i h0 h1 => by omega, fun _ => rfl⟩
 | k + 1 => by
  have hb := dstTo_bd a b k
  have ih := dstTo_zero (a := a) (b := b) (k := k)
  unfold dstTo
  constructor
  ·intro h i h0 h1
   by_cases e : ix 0 a k ≠ ix 0 b k
   ·rw [if_pos e] at h; omega
   ·rw [if_neg e, Int.add_zero] at h
    by_cases hi : i = k
    ·rw [hi]; exact Classical.not_not.1 e
    ·exact ih.1 h i h0 (by omega)
  ·intro h
   rw [if_neg (fun e => e (h k (by omega) (by omega))), ih.2 fun i h0 h1 => h i h0 (by omega)]; rfl
def hisTo (n : Int) (g : Int → Int) : Nat → List Int
 | 0 => List.replicate n.toNat 0
 | k + 1 => (hisTo n g k).set (g k).toNat (ix 0 (hisTo n g k) (g k) + 1)
@[simp] theorem length_hisTo (n : Int) (g : Int → Int) : ∀ k, (hisTo n g k).length = n.toNat
 | 0 => by simp [hisTo]
 | k + 1 => by simp [hisTo, length_hisTo n g k]
def cntTo (g : Int → Int) (j : Int) : Nat → Int
 | 0 => 0
 | k + 1 => cntTo g j k + (if g k = j then 1 else 0)
theorem cntTo_bd (g : Int → Int) (j : Int) : ∀ k : Nat, 0 ≤ cntTo g j k ∧ cntTo g j k ≤ k
 | 0 => ⟨Int.le_refl _, Int.le_refl _⟩
 | k + 1 => by
  have := cntTo_bd g j k
  unfold cntTo
  split <;> omega
theorem ix_hisTo {n : Int} {g : Int → Int} : ∀ {k : Nat} {j : Int}, (∀ i : Int, 0 ≤ i → i < k → 0 ≤ g i ∧ g i < n) → 0 ≤ j → j < n → ix 0 (hisTo n g k) j = cntTo g j k
 | 0, j, _, _, _ => ix_zeros _ _
 | k + 1, j, h, h0, h1 => by
  have hk := h k (by omega) (by omega)
  have ih := ix_hisTo (n := n) (g := g) (k := k) (j := j) (fun i i0 i1 => h i i0 (by omega)) h0 h1
  have ih2 := ix_hisTo (n := n) (g := g) (k := k) (j := g k) (fun i i0 i1 => h i i0 (by omega)) hk.1 hk.2
  unfold hisTo cntTo
  unfold ix at ih ih2 ⊢
  rw [List.getD_eq_getElem?_getD] at ih ih2 ⊢
  by_cases e : g k = j
  ·rw [if_pos e, e, List.getElem?_set_self (by rw [length_hisTo]; omega)]
   rw [e] at ih2
   simp only [Option.getD_some]
   rw [List.getD_eq_getElem?_getD, ih]
  ·rw [if_neg e, List.getElem?_set_ne (by omega), ih, Int.add_zero]
theorem cnt_congr {g g' : Int → Int} {j : Int} : ∀ {k : Nat}, (∀ i : Int, 0 ≤ i → i < k → g i = g' i) → cntTo g j k = cntTo g' j k
 | 0, _ => rfl
 | k + 1, h => by
  unfold cntTo
  rw [cnt_congr fun i h0 h1 => h i h0 (by omega), h k (by omega) (by omega)]
end Go.Cw
set_option linter.unusedVariables false
set_option linter.unusedSimpArgs false
set_option linter.unusedSectionVars false
namespace Go.Cw
theorem dgs_out {f : Fld} (hS : Shape f) : ∀ (k : Nat) (v : Int), ¬ outF f (dgs f.q k v)
 | 0, _ => by simp [dgs, outF]
 | k + 1, v => notOut_app (dgs_out hS k _) (by
  have := hS.bd
  intro ⟨x, hx, hn⟩
  rw [List.mem_singleton.1 hx] at hn
  exact hn ⟨Int.emod_nonneg _ (by omega), Int.emod_lt_of_pos _ (by omega)⟩)
theorem dgs_inj {q : Int} (hq : 2 ≤ q) : ∀ (k : Nat) {v w : Int}, 0 ≤ v → v < q ^ k → 0 ≤ w → w < q ^ k → dgs q k v = dgs q k w → v = w
 | 0, v, w, h1, h2, h3, h4, _ => by rw [Int.pow_zero] at h2 h4; omega
 | k + 1, v, w, h1, h2, h3, h4, h => by
  have h' : dgs q k (v / q) ++ [v % q] = dgs q k (w / q) ++ [w % q] := h
  obtain ⟨e1, e2⟩ := List.append_inj h' (by simp)
  have e3 : v % q = w % q := by simpa using e2
  rw [Int.pow_succ] at h2 h4
  have e4 := dgs_inj hq k (v := v / q) (w := w / q) (Int.ediv_nonneg h1 (by omega)) ((Int.ediv_lt_iff_lt_mul (by omega)).2 h2) (Int.ediv_nonneg h3 (by omega)) ((Int.ediv_lt_iff_lt_mul (by omega)).2 h4) e1
  have h5 := Int.mul_ediv_add_emod v q
  have h6 := Int.mul_ediv_add_emod w q
  rw [e4] at h5
  omega
namespace COk
variable {c : Cod}
theorem canf (h : COk c) : CanF c.F c.m := can_facts h.mat
theorem plen (h : COk c) : (canP c.F c.m).length = c.Gen.length := by rw [← h.canf.len, h.can]
theorem q2 (h : COk c) : 2 ≤ c.F.q := h.fld.1.bd.2.2.2.2.2.1
theorem wdl (h : COk c) (v : Int) : ((wdF c.F c.N c.Gen v).length : Int) = c.N := by have := h.n1; rw [length_wdF]; omega
theorem wd_out (h : COk c) (v : Int) : ¬ outF c.F (wdF c.F c.N c.Gen v) := comb_out h.fld.1 _ _ _
theorem wdn (h : COk c) {l : List Int} (hl : l ∈ c.Gen) : l.length ≤ c.N.toNat := by
 obtain ⟨z, z0, z1, rfl⟩ := mem_ix [] hl
 have := h.row z0 z1
 omega
theorem comb_piv (h : COk c) {x : List Int} (hx : x.length = c.Gen.length) (ho : ¬ outF c.F x) {i : Int} (i0 : 0 ≤ i) (i1 : i < c.Gen.length) : ix 0 (comb c.F x c.Gen c.N) (ix 0 (canP c.F c.m) i) = ix 0 x i := by
 have hp := h.plen
 have hr := h.canf.rng i i0 (by omega)
 have w1 := ix_ok h.fld.1 (comb_out h.fld.1 x c.Gen c.N) (ix 0 (canP c.F c.m) i)
 have w2 := ix_ok h.fld.1 ho i
 refine ke_inj h.fld w1.1 w1.2 w2.1 w2.2 ?_
 obtain ⟨p, hp'⟩ : ∃ p : Nat, ix 0 (canP c.F c.m) i = p := ⟨(ix 0 (canP c.F c.m) i).toNat, by omega⟩
 rw [hp', ← kv_ix h.fld, kv_comb h.fld (fun l hl => h.wdn hl) (by omega)]
 unfold La.lin
 have hd : ∀ j : Nat, j < c.Gen.length → km h.fld c.Gen j p = ke h.fld (if (j : Int) = i then 1 else 0) := fun j hj => by
  rw [km_ix, ← hp', ← h.can, h.canf.ent i j i0 (by omega) (by omega) (by omega)]
 rw [La.sm_one (k := i.toNat) (by omega) (fun j hj hne => by rw [hd j hj, if_neg (by omega), ke_zero, Fi.mul_zero])]
 rw [hd i.toNat (by omega), if_pos (by omega), ke_one, Fi.mul_one, kv_ix, show ((i.toNat : Nat) : Int) = i by omega]
theorem wd_inj (h : COk c) {v w : Int} (v0 : 0 ≤ v) (v1 : v < c.F.q ^ c.Gen.length) (w0 : 0 ≤ w) (w1 : w < c.F.q ^ c.Gen.length) (e : wdF c.F c.N c.Gen v = wdF c.F c.N c.Gen w) : v = w := by
 refine dgs_inj h.q2 c.Gen.length v0 v1 w0 w1 (ext_ix 0 (by simp) fun i i0 i1 => ?_)
 rw [length_dgs] at i1
 rw [← h.comb_piv (length_dgs _ _ _) (dgs_out h.fld.1 _ _) i0 i1, ← h.comb_piv (length_dgs _ _ _) (dgs_out h.fld.1 _ _) i0 i1]
 exact congrArg (fun l => ix 0 l _) e
end COk
end Go.Cw
set_option linter.unusedVariables false
set_option linter.unusedSimpArgs false
set_option linter.unusedSectionVars false
namespace Go.Cw
section
variable {α : Type} {g : Int → Int} {p : Int → Bool} {z : Int} {wd : Int → List α} {i : Int}
end
def valD (q : Int) : List Int → Int := fun l => l.foldl (fun a d => a * q + d) 0
theorem valD_snoc (q : Int) (l : List Int) (d : Int) : valD q (l ++ [d]) = valD q l * q + d := by unfold valD; rw [List.foldl_append]; rfl
theorem valD_dgs {q : Int} (hq : 2 ≤ q) : ∀ (n : Nat) (l : List Int), l.length = n → (∀ d ∈ l, 0 ≤ d ∧ d < q) → 0 ≤ valD q l ∧ valD q l < q ^ n ∧ dgs q n (valD q l) = l
 | 0, l, hl, _ => by
  have : l = [] := List.eq_nil_of_length_eq_zero hl
  subst this
  exact ⟨Int.le_refl _, by simp [valD], rfl⟩
 | n + 1, l, hl, h => by
  obtain ⟨l', d, rfl⟩ : ∃ l' d, l = l' ++ [d] := by
   have hne : l ≠ [] := fun e => by rw [e] at hl; cases hl
   exact ⟨l.dropLast, l.getLast hne, (List.dropLast_concat_getLast hne).symm⟩
  have hl' : l'.length = n := by simp at hl; omega
  obtain ⟨h1, h2, h3⟩ := valD_dgs hq n l' hl' fun x hx => h x (List.mem_append_left _ hx)
  have hd := h d (List.mem_append_right _ (List.mem_singleton.2 rfl))
  rw [valD_snoc]
  refine ⟨Int.add_nonneg (Int.mul_nonneg h1 (by omega)) hd.1, ?_, ?_⟩
  ·rw [Int.pow_succ]
   have := Int.mul_le_mul_of_nonneg_right (show valD q l' + 1 ≤ q ^ n by omega) (show 0 ≤ q by omega)
   rw [Int.add_mul, Int.one_mul] at this
   omega
  ·rw [dgs_next hd.1 hd.2, h3]
noncomputable def lisE (f : Fld) (l : List Int) (n : Int) : Int := if (l.length : Int) ≠ n then 4 else entErr f l
theorem lisE_zero {f : Fld} {l : List Int} {n : Int} : lisE f l n = 0 ↔ (l.length : Int) = n ∧ ¬ outF f l := by
 unfold lisE
 by_cases h : (l.length : Int) ≠ n
 ·rw [if_pos h]; exact Iff.intro (fun h => by cases h) (fun h2 => absurd h2.1 h)
 ·rw [if_neg h, entErr_zero]; exact ⟨fun h2 => ⟨Classical.not_not.1 h, h2⟩, fun h2 => h2.2⟩
noncomputable def wrdE (c : Cod) (w : List Int) : Int := if codE c = 0 then lisE c.F w c.N else codE c
theorem wrdE_zero {c : Cod} {w : List Int} : wrdE c w = 0 ↔ COk c ∧ (w.length : Int) = c.N ∧ ¬ outF c.F w := by
 unfold wrdE
 by_cases h : codE c = 0
 ·rw [if_pos h, lisE_zero, ← codE_zero]; exact ⟨fun h2 => ⟨h, h2⟩, fun h2 => h2.2⟩
 ·rw [if_neg h, ← codE_zero]; exact ⟨fun h2 => absurd h2 h, fun h2 => absurd h2.1 h⟩
noncomputable def encE (c : Cod) (m : List Int) : Int := if codE c = 0 then lisE c.F m c.Gen.length else codE c
noncomputable def encC (c : Cod) (m : List Int) : List Int := if encE c m = 0 then comb c.F m c.Gen c.N else []
theorem encE_zero {c : Cod} {m : List Int} : encE c m = 0 ↔ COk c ∧ m.length = c.Gen.length ∧ ¬ outF c.F m := by
 unfold encE
 by_cases h : codE c = 0
 ·rw [if_pos h, lisE_zero, ← codE_zero]; exact ⟨fun h2 => ⟨h, by have := h2.1; omega, h2.2⟩, fun h2 => ⟨by rw [h2.2.1], h2.2.2⟩⟩
 ·rw [if_neg h, ← codE_zero]; exact ⟨fun h2 => absurd h2 h, fun h2 => absurd h2.1 h⟩
theorem msg_index {c : Cod} (hk : COk c) {m : List Int} (hl : m.length = c.Gen.length) (ho : ¬ outF c.F m) : ∃ v : Int, 0 ≤ v ∧ v < c.F.q ^ c.Gen.length ∧ comb c.F m c.Gen c.N = wdF c.F c.N c.Gen v := by
 obtain ⟨h1, h2, h3⟩ := valD_dgs hk.q2 c.Gen.length m hl fun x hx => outF_no ho hx
 exact ⟨_, h1, h2, by unfold wdF; rw [h3]⟩
theorem enc_index {c : Cod} {m : List Int} (h : encE c m = 0) : ∃ v : Int, 0 ≤ v ∧ v < c.F.q ^ c.Gen.length ∧ encC c m = wdF c.F c.N c.Gen v := by
 obtain ⟨hk, hl, ho⟩ := encE_zero.1 h
 unfold encC
 rw [if_pos h]
 exact msg_index hk hl ho
abbrev Cod.w (c : Cod) (i : Int) : List Int := wdF c.F c.N c.Gen i
abbrev Cod.n (c : Cod) : Nat := (c.F.q ^ c.Gen.length).toNat
noncomputable def neE (c : Cod) (y : List Int) : Int := if wrdE c y = 0 then sizE c else wrdE c y
theorem COk.cn {c : Cod} (h : COk c) : (c.n : Int) = c.F.q ^ c.Gen.length := by
 have := pow_pos_of c.F.q h.q2 c.Gen.length
 exact Int.toNat_of_nonneg (by omega)
theorem enc_wt {c : Cod} (hs : sizE c = 0) {m : List Int} (h : encE c m = 0) : ∃ v : Int, 0 ≤ v ∧ v < c.n ∧ encC c m = c.w v := by
 obtain ⟨v, h0, h1, h2⟩ := enc_index h
 exact ⟨v, h0, by rw [(sizE_zero.1 hs).1.cn]; exact h1, h2⟩
end Go.Cw
set_option linter.unusedVariables false
set_option linter.unusedSimpArgs false
set_option linter.unusedSectionVars false
namespace Go.Cw
def smT (h : Int → Int) : Nat → Int
 | 0 => 0
 | k + 1 => smT h k + h k
theorem smT_congr {h h' : Int → Int} : ∀ {k : Nat}, (∀ i : Int, 0 ≤ i → i < k → h i = h' i) → smT h k = smT h' k
 | 0, _ => rfl
 | k + 1, e => by rw [smT, smT, smT_congr fun i h0 h1 => e i h0 (by omega), e k (by omega) (by omega)]
theorem smT_add (g h : Int → Int) : ∀ k : Nat, smT (fun i => g i + h i) k = smT g k + smT h k
 | 0 => rfl
 | k + 1 => by rw [smT, smT, smT, smT_add g h k]; omega
theorem smT_zero {h : Int → Int} {k : Nat} (e : ∀ i : Int, 0 ≤ i → i < k → h i = 0) : smT h k = 0 := by
 induction k with
 | zero => rfl
 | succ k ih => rw [smT, ih fun i h0 h1 => e i h0 (by omega), e k (by omega) (by omega)]; rfl
theorem smT_single (a v : Int) : ∀ (k : Nat), 0 ≤ v → smT (fun i => if v = i then a else 0) k = if v < k then a else 0
 | 0, h => by rw [if_neg (by omega)]; rfl
 | k + 1, h => by
  rw [smT, smT_single a v k h]
  by_cases e : v = k
  ·rw [if_neg (by omega), if_pos e, if_pos (by omega)]; omega
  ·rw [if_neg e]
   by_cases h2 : v < k
   ·rw [if_pos h2, if_pos (by omega)]; omega
   ·rw [if_neg h2, if_neg (by omega)]; rfl
theorem smT_le_one {h : Int → Int} : ∀ {n : Nat}, (∀ i : Int, 0 ≤ i → i < n → h i ≤ 1) → smT h n ≤ n
 | 0, _ => Int.le_refl _
 | n + 1, e => by
  have : smT h n ≤ n := smT_le_one (n := n) fun i h0 h1 => e i h0 (by omega)
  have h2 := e n (by omega) (by omega)
  rw [smT]; omega
theorem smT_all_one {h : Int → Int} : ∀ {n : Nat}, (∀ i : Int, 0 ≤ i → i < n → h i ≤ 1) → smT h n = n → ∀ i : Int, 0 ≤ i → i < n → h i = 1
 | 0, _, _, i, h0, h1 => by omega
 | n + 1, e, hs, i, h0, h1 => by
  have h2 := e n (by omega) (by omega)
  have h3 : smT h n ≤ n := smT_le_one (n := n) fun i h0 h1 => e i h0 (by omega)
  rw [smT] at hs
  by_cases hi : i = n
  ·rw [hi]; omega
  ·exact smT_all_one (n := n) (fun i h0 h1 => e i h0 (by omega)) (by omega) i h0 (by omega)
theorem cnt_smT (g : Int → Int) (j : Int) : ∀ k : Nat, cntTo g j k = smT (fun i => if g i = j then 1 else 0) k
 | 0 => rfl
 | k + 1 => by rw [cntTo, smT, cnt_smT g j k]
structure PermN (p : Int → Int) (n : Nat) : Prop where
 rng : ∀ i : Int, 0 ≤ i → i < n → 0 ≤ p i ∧ p i < n
 inj : ∀ i j : Int, 0 ≤ i → i < n → 0 ≤ j → j < n → p i = p j → i = j
namespace PermN
variable {p : Int → Int} {n : Nat}
theorem le_one (h : PermN p n) (v : Int) : ∀ k : Nat, k ≤ n → cntTo p v k ≤ 1 ∧ (cntTo p v k = 1 → ∃ i : Int, 0 ≤ i ∧ i < k ∧ p i = v)
 | 0, _ => ⟨show (0 : Int) ≤ 1 by decide, fun h => absurd (show (0 : Int) = 1 from h) (by decide)⟩
 | k + 1, hk => by
  obtain ⟨h1, h2⟩ := h.le_one v k (by omega)
  have hb := cntTo_bd p v k
  unfold cntTo
  by_cases e : p k = v
  ·rw [if_pos e]
   have h0 : cntTo p v k = 0 := by
    by_cases h3 : cntTo p v k = 1
    ·obtain ⟨i, i0, i1, i2⟩ := h2 h3
     have := h.inj i k i0 (by omega) (by omega) (by omega) (by rw [i2, e])
     omega
    ·omega
   rw [h0]
   exact ⟨by decide, fun _ => ⟨k, by omega, by omega, e⟩⟩
  ·rw [if_neg e, Int.add_zero]
   exact ⟨h1, fun h3 => by obtain ⟨i, i0, i1, i2⟩ := h2 h3; exact ⟨i, i0, by omega, i2⟩⟩
theorem total (h : PermN p n) : ∀ k : Nat, k ≤ n → smT (fun v => cntTo p v k) n = k
 | 0, _ => smT_zero fun _ _ _ => rfl
 | k + 1, hk => by
  have hr := h.rng k (by omega) (by omega)
  show smT (fun v => cntTo p v k + (if p k = v then 1 else 0)) n = _
  rw [smT_add, h.total k (by omega), smT_single 1 (p k) n hr.1, if_pos hr.2]; omega
theorem one (h : PermN p n) : ∀ v : Int, 0 ≤ v → v < n → cntTo p v n = 1 :=
 smT_all_one (fun i _ _ => (h.le_one i n (Nat.le_refl _)).1) (h.total n (Nat.le_refl _))
theorem sum_to (h : PermN p n) (g : Int → Int) : ∀ k : Nat, k ≤ n → smT (fun i => g (p i)) k = smT (fun v => g v * cntTo p v k) n
 | 0, _ => (smT_zero fun _ _ _ => Int.mul_zero _).symm
 | k + 1, hk => by
  have hr := h.rng k (by omega) (by omega)
  have e : smT (fun v => g v * cntTo p v (k + 1)) n = smT (fun v => g v * cntTo p v k + (if p k = v then g (p k) else 0)) n := smT_congr fun v _ _ => by
   show g v * (cntTo p v k + (if p k = v then 1 else 0)) = _
   by_cases e : p k = v
   ·rw [if_pos e, if_pos e, Int.mul_add, Int.mul_one, e]
   ·rw [if_neg e, if_neg e, Int.add_zero, Int.add_zero]
  rw [e, smT_add, ← h.sum_to g k (by omega), smT_single (g (p k)) (p k) n hr.1, if_pos hr.2]; rfl
theorem sum (h : PermN p n) (g : Int → Int) : smT (fun i => g (p i)) n = smT g n := by
 rw [h.sum_to g n (Nat.le_refl _)]
 exact smT_congr fun v h0 h1 => by rw [h.one v h0 h1, Int.mul_one]
theorem cnt (h : PermN p n) (g : Int → Int) (j : Int) : cntTo (fun i => g (p i)) j n = cntTo g j n := by
 rw [cnt_smT, cnt_smT]
 exact h.sum fun v => if g v = j then 1 else 0
end PermN
theorem his_ext {n : Int} {g g' : Int → Int} {k : Nat} (h : ∀ i : Int, 0 ≤ i → i < k → 0 ≤ g i ∧ g i < n) (h' : ∀ i : Int, 0 ≤ i → i < k → 0 ≤ g' i ∧ g' i < n) (e : ∀ j : Int, 0 ≤ j → j < n → cntTo g j k = cntTo g' j k) : hisTo n g k = hisTo n g' k := by
 refine ext_ix 0 (by simp) fun i i0 i1 => ?_
 rw [length_hisTo] at i1
 rw [ix_hisTo h i0 (by omega), ix_hisTo h' i0 (by omega), e i i0 (by omega)]
def vadd (f : Fld) (a b : List Int) : List Int := mapR (fun i => addF f (ix 0 a i) (ix 0 b i)) a.length
def vneg (f : Fld) (a : List Int) : List Int := mapR (fun i => negF f (ix 0 a i)) a.length
@[simp] theorem length_vadd (f : Fld) (a b : List Int) : (vadd f a b).length = a.length := by unfold vadd; rw [length_mapR]; omega
@[simp] theorem length_vneg (f : Fld) (a : List Int) : (vneg f a).length = a.length := by unfold vneg; rw [length_mapR]; omega
theorem vadd_out {f : Fld} (hS : Shape f) (a b : List Int) : ¬ outF f (vadd f a b) := outF_mapR fun _ _ _ => hS.addF_lt _ _
section
variable {f : Fld} (h : FOk f)
theorem kv_vadd {a b : List Int} (hl : b.length ≤ a.length) (j : Nat) : kv h (vadd f a b) j = kv h a j + kv h b j := by
 by_cases hj : j < a.length
 ·rw [kv_ix, kv_ix h a, kv_ix h b]
  unfold vadd
  rw [ix_mapR 0 _ (by omega) (by omega), ke_add]
 ·rw [kv_out h (by rw [length_vadd]; omega), kv_out h (v := a) (by omega), kv_out h (v := b) (by omega), Fi.add_zero]
end
namespace COk
variable {c : Cod}
theorem kvw (h : COk c) {x : List Int} (hx : c.Gen.length ≤ x.length) : kv h.fld (comb c.F x c.Gen c.N) = La.lin (kv h.fld x) (km h.fld c.Gen) c.Gen.length := kv_comb h.fld (fun _ hl => h.wdn hl) hx
theorem comb_add (h : COk c) {x y : List Int} (hx : x.length = c.Gen.length) (hy : y.length = c.Gen.length) : comb c.F (vadd c.F x y) c.Gen c.N = vadd c.F (comb c.F x c.Gen c.N) (comb c.F y c.Gen c.N) := by
 refine kv_ext h.fld (comb_out h.fld.1 _ _ _) (vadd_out h.fld.1 _ _) (by rw [length_vadd, length_comb, length_comb]) fun j _ => ?_
 rw [kv_vadd h.fld (by rw [length_comb, length_comb]; exact Nat.le_refl _), h.kvw (by simp [hx]), h.kvw (by omega), h.kvw (by omega)]
 unfold La.lin
 rw [← La.sm_add]
 exact La.sm_congr fun i _ => by rw [kv_vadd h.fld (by omega), Fi.add_mul]
end COk
theorem addF_cancel {f : Fld} (h : FOk f) {x y u : Int} (x0 : 0 ≤ x) (x1 : x < f.q) (y0 : 0 ≤ y) (y1 : y < f.q) (e : addF f x u = addF f y u) : x = y := by
 have e2 : ke h x + ke h u = ke h y + ke h u := by rw [← ke_add, ← ke_add, e]
 rw [Fi.add_comm, Fi.add_comm (ke h y)] at e2
 exact ke_inj h x0 x1 y0 y1 (Fi.add_left_cancel e2)
theorem ix_vadd {f : Fld} {a b : List Int} {i : Int} (h0 : 0 ≤ i) (h1 : i < a.length) : ix 0 (vadd f a b) i = addF f (ix 0 a i) (ix 0 b i) := ix_mapR 0 _ h0 h1
theorem dst_vadd {f : Fld} (h : FOk f) {a b u : List Int} (ha : ¬ outF f a) (hb : ¬ outF f b) (hl : a.length = b.length) : dst (vadd f a u) (vadd f b u) = dst a b := by
 unfold dst
 rw [length_vadd, length_vadd]
 refine dstTo_congr _ fun i h0 h1 => ?_
 rw [ix_vadd h0 (by omega), ix_vadd h0 (by omega)]
 have r1 := ix_ok h.1 ha i
 have r2 := ix_ok h.1 hb i
 exact ⟨fun hn e => hn (by rw [e]), fun hn e => hn (addF_cancel h r1.1 r1.2 r2.1 r2.2 e)⟩
theorem vadd_cancel {f : Fld} (h : FOk f) {a b u : List Int} (ha : ¬ outF f a) (hb : ¬ outF f b) (hl : a.length = b.length) (e : vadd f a u = vadd f b u) : a = b := by
 refine ext_ix 0 (by omega) fun i i0 i1 => ?_
 have r1 := ix_ok h.1 ha i
 have r2 := ix_ok h.1 hb i
 refine addF_cancel h r1.1 r1.2 r2.1 r2.2 (u := ix 0 u i) ?_
 rw [← ix_vadd i0 i1, ← ix_vadd i0 (by omega), e]
namespace COk
variable {c : Cod}
theorem wl (h : COk c) (i : Int) : (c.w i).length = c.N.toNat := length_wdF _ _ _ _
theorem perm_of (h : COk c) (F : List Int → List Int) (G : List Int → List Int) (hF : ∀ x : List Int, x.length = c.Gen.length → (F x).length = c.Gen.length ∧ ¬ outF c.F (F x) ∧ comb c.F (F x) c.Gen c.N = G (comb c.F x c.Gen c.N))
  (hG : ∀ i j : Int, G (c.w i) = G (c.w j) → c.w i = c.w j) : ∃ p : Int → Int, PermN p c.n ∧ ∀ i : Int, 0 ≤ i → i < c.n → c.w (p i) = G (c.w i) := by
 have key : ∀ i : Int, 0 ≤ valD c.F.q (F (dgs c.F.q c.Gen.length i)) ∧ valD c.F.q (F (dgs c.F.q c.Gen.length i)) < c.F.q ^ c.Gen.length ∧ c.w (valD c.F.q (F (dgs c.F.q c.Gen.length i))) = G (c.w i) := fun i => by
  obtain ⟨l1, l2, l3⟩ := hF (dgs c.F.q c.Gen.length i) (length_dgs _ _ _)
  obtain ⟨h1, h2, h3⟩ := valD_dgs h.q2 c.Gen.length _ l1 fun x hx => outF_no l2 hx
  refine ⟨h1, h2, ?_⟩
  show comb c.F (dgs c.F.q c.Gen.length _) c.Gen c.N = _
  rw [h3, l3]
  rfl
 refine ⟨fun i => valD c.F.q (F (dgs c.F.q c.Gen.length i)), ⟨fun i _ _ => ⟨(key i).1, by rw [h.cn]; exact (key i).2.1⟩, fun i j i0 i1 j0 j1 e => ?_⟩, fun i _ _ => (key i).2.2⟩
 rw [h.cn] at i1 j1
 refine h.wd_inj i0 i1 j0 j1 (hG i j ?_)
 rw [← (key i).2.2, ← (key j).2.2]
 exact congrArg c.w e
theorem perm_add (h : COk c) (u : Int) : ∃ p : Int → Int, PermN p c.n ∧ ∀ i : Int, 0 ≤ i → i < c.n → c.w (p i) = vadd c.F (c.w i) (c.w u) :=
 h.perm_of (fun x => vadd c.F x (dgs c.F.q c.Gen.length u)) (fun w => vadd c.F w (c.w u)) (fun x hx => ⟨by simp [hx], vadd_out h.fld.1 _ _, h.comb_add hx (length_dgs _ _ _)⟩)
  (fun i j e => vadd_cancel h.fld (h.wd_out i) (h.wd_out j) (by rw [h.wl, h.wl]) e)
theorem cnt_add (h : COk c) {y : List Int} (hl : (y.length : Int) = c.N) (ho : ¬ outF c.F y) (u j : Int) : cntTo (fun i => dst (c.w i) (vadd c.F y (c.w u))) j c.n = cntTo (fun i => dst (c.w i) y) j c.n := by
 obtain ⟨p, hp, hw⟩ := h.perm_add u
 rw [← hp.cnt]
 exact cnt_congr fun i i0 i1 => by rw [hw i i0 i1]; exact dst_vadd h.fld (h.wd_out i) ho (by rw [h.wl]; omega)
end COk
noncomputable def coL (c : Cod) (y : List Int) : List Int := if neE c y = 0 then hisTo (c.N + 1) (fun i => dst (c.w i) y) c.n else []
theorem ne_zero {c : Cod} {y : List Int} : neE c y = 0 ↔ wrdE c y = 0 ∧ sizE c = 0 := by
 unfold neE
 by_cases h : wrdE c y = 0
 ·rw [if_pos h]; exact ⟨fun h2 => ⟨h, h2⟩, fun h2 => h2.2⟩
 ·rw [if_neg h]; exact ⟨fun h2 => absurd h2 h, fun h2 => absurd h2.1 h⟩
theorem dst_rng {c : Cod} (hk : COk c) (y : List Int) (i : Int) : 0 ≤ dst (c.w i) y ∧ dst (c.w i) y < c.N + 1 := by
 have h1 := dst_le (c.w i) y
 have h2 := (dst_bd (c.w i) y).1
 have h3 : ((c.w i).length : Int) = c.N := hk.wdl i
 exact ⟨h2, by omega⟩
theorem co_add {c : Cod} {y m : List Int} (h : neE c y = 0) (hm : encE c m = 0) : neE c (vadd c.F y (encC c m)) = 0 ∧ coL c (vadd c.F y (encC c m)) = coL c y ∧ y.length = (encC c m).length := by
 obtain ⟨hw, hs⟩ := ne_zero.1 h
 obtain ⟨hk, hl, ho⟩ := wrdE_zero.1 hw
 obtain ⟨v, v0, v1, ev⟩ := enc_wt hs hm
 have hN := hk.n1
 rw [ev]
 have e : neE c (vadd c.F y (c.w v)) = 0 := ne_zero.2 ⟨wrdE_zero.2 ⟨hk, by rw [length_vadd]; exact hl, vadd_out hk.fld.1 _ _⟩, hs⟩
 refine ⟨e, ?_, by rw [hk.wl]; omega⟩
 unfold coL
 rw [if_pos e, if_pos h]
 exact his_ext (fun i _ _ => dst_rng hk _ i) (fun i _ _ => dst_rng hk _ i) fun j _ _ => hk.cnt_add hl ho v j
end Go.Cw
set_option linter.unusedVariables false
set_option linter.unusedSimpArgs false
set_option linter.unusedSectionVars false
namespace Go.Cw
def hisOn (L : List Int) (g : Int → Int) (s : Int) : Nat → List Int
 | 0 => L
 | k + 1 => (hisOn L g s k).set (g k).toNat (ix 0 (hisOn L g s k) (g k) + s)
@[simp] theorem length_hisOn (L : List Int) (g : Int → Int) (s : Int) : ∀ k, (hisOn L g s k).length = L.length
 | 0 => rfl
 | k + 1 => by simp [hisOn, length_hisOn L g s k]
def lens (l : List (List Int)) (n : Int) : Prop := ∀ i : Int, 0 ≤ i → i < l.length → ((ix [] l i).length : Int) = n
def dg (l : List (List Int)) (a : Int) : Int → Int := fun b => dst (ix [] l a) (ix [] l b)
def disR (l : List (List Int)) (n : Int) : Nat → List Int
 | 0 => List.replicate (n + 1).toNat 0
 | k + 1 => hisOn (disR l n k) (dg l k) 1 l.length
def disP (l : List (List Int)) (n : Int) : Nat → List Int
 | 0 => (List.replicate (n + 1).toNat 0).set 0 l.length
 | k + 1 => hisOn (disP l n k) (dg l k) 2 k
@[simp] theorem length_disR (l : List (List Int)) (n : Int) : ∀ k, (disR l n k).length = (n + 1).toNat
 | 0 => by simp [disR]
 | k + 1 => by simp [disR, length_disR l n k]
@[simp] theorem length_disP (l : List (List Int)) (n : Int) : ∀ k, (disP l n k).length = (n + 1).toNat
 | 0 => by simp [disP]
 | k + 1 => by simp [disP, length_disP l n k]
section
variable {l : List (List Int)} {n : Int}
theorem dst_self (a : List Int) : dst a a = 0 := dstTo_zero.2 fun _ _ _ => rfl
theorem pairs (l : List (List Int)) (j : Int) : ∀ k : Nat, smT (fun a => cntTo (dg l a) j k) k = (if 0 = j then (k : Int) else 0) + 2 * smT (fun a => cntTo (dg l a) j a.toNat) k
 | 0 => by
  show (0 : Int) = (if 0 = j then ((0 : Nat) : Int) else 0) + 2 * 0
  split <;> rfl
 | k + 1 => by
  have ih := pairs l j k
  have e1 : smT (fun a => cntTo (dg l a) j (k + 1)) k = smT (fun a => cntTo (dg l a) j k) k + cntTo (dg l k) j k := by
   have : smT (fun a => cntTo (dg l a) j (k + 1)) k = smT (fun a => cntTo (dg l a) j k + (if dg l a k = j then 1 else 0)) k := rfl
   rw [this, smT_add, cnt_smT (dg l k)]
   congr 1
   exact smT_congr fun a _ _ => by unfold dg; rw [dst_symm]
  have e2 : cntTo (dg l k) j (k + 1) = cntTo (dg l k) j k + (if 0 = j then 1 else 0) := by
   show cntTo (dg l k) j k + (if dg l k k = j then 1 else 0) = _
   rw [show dg l k k = 0 from dst_self _]
  rw [smT, smT, e1, e2, ih, show ((k : Int)).toNat = k by omega]
  split <;> omega
end
end Go.Cw
set_option linter.unusedVariables false
set_option linter.unusedSimpArgs false
set_option linter.unusedSectionVars false
namespace Go.Cw
theorem canR_idem {f : Fld} {n : Nat} {X : List (List Int)} (h : FOk f) (hX : good f n X) : canR (elim f (canR (elim f X [] n)) [] n) = canR (elim f X [] n) := by
 have hg := canR_good h.1 hX n
 have hl := length_canR f X n
 have s1 := elim_span h hX n
 refine (can_uniq h hg hX (fun i hi => ?_) (fun i hi => ?_)).2
 ·rw [km_canR h (by omega)]
  exact s1.1 i (by have := piv_le f X [] n; omega)
 ·have hm : ix [] X i ∈ X := ix_mem [] X (i := (i : Int)) (by omega) (by omega)
  have e := can_row h hX hm
  have hk : km h X i = kv h (ix [] X i) := by rw [ix_nat]; rfl
  rw [hk, ← e, kv_comb h (fun l hl' => by have := (hg l hl').1; omega) (by simp; omega)]
  exact ⟨_, rfl⟩
def dua (c : Cod) : Cod := ⟨c.F, c.N, nullR c.F c.Gen c.N⟩
def sidC (c : Cod) (d : Bool) : Cod := if d then dua c else c
namespace COk
variable {c : Cod}
theorem rows_can (hk : COk c) : canR (elim c.F c.Gen [] c.N.toNat) = c.Gen := by
 have := hk.can
 rw [canM_ok hk.mat] at this
 exact this
theorem good (hk : COk c) : good c.F c.N.toNat c.Gen := mat_good hk.gmat
theorem dim_dua (hk : COk c) : ((dua c).Gen.length : Int) + c.Gen.length = c.N := by
 have hd := null_dim hk.fld hk.good
 have hl := length_canR c.F c.Gen c.N.toNat
 have hn := hk.n1
 rw [hk.rows_can] at hl
 show ((nullR c.F c.Gen c.N).length : Int) + _ = _
 rw [show ((c.N.toNat : Nat) : Int) = c.N by omega] at hd
 omega
theorem good_dua (hk : COk c) : Go.Cw.good c.F c.N.toNat (dua c).Gen := canR_good hk.fld.1 (ker_good hk.fld.1 _ _ _ _) _
theorem mat_dua (hk : COk c) : mErr c.F ⟨c.N, (dua c).Gen⟩ = 0 := by
 have hn := hk.n1; have h64 := hk.n64; have hd := hk.dim_dua
 exact mErr_zero.2 ⟨hk.fld, good_mat (by show 0 ≤ c.N; omega) (by show c.N ≤ 256; omega) (by show (dua c).Gen.length ≤ 256; omega) hk.good_dua⟩
theorem dua (hk : COk c) : COk (dua c) where
 fld := hk.fld
 n1 := hk.n1
 n64 := hk.n64
 mat := hk.mat_dua
 can := by
  show (canM c.F ⟨c.N, (Go.Cw.dua c).Gen⟩).rows = (Go.Cw.dua c).Gen
  rw [canM_ok hk.mat_dua]
  exact canR_idem hk.fld (ker_good hk.fld.1 _ _ _ _)
theorem side (hk : COk c) (d : Bool) : COk (sidC c d) := by
 unfold sidC
 split
 ·exact hk.dua
 ·exact hk
end COk
structure Tly where
 dual : Bool
 count : List Int
end Go.Cw
set_option linter.unusedVariables false
set_option linter.unusedSimpArgs false
set_option linter.unusedSectionVars false
namespace Go.Cw
def binT : Nat → Int → Int
 | 0, j => if j = 0 then 1 else 0
 | n + 1, j => binT n j + binT n (j - 1)
def spK (P : List Int) : Nat → Int
 | 0 => 0
 | i + 1 => if spK P i < P.length ∧ ix 0 P (spK P i) = i then spK P i + 1 else spK P i
def spJ (P : List Int) (R : Int) : Nat → Int
 | 0 => 0
 | i + 1 => if spK P i < P.length ∧ ix 0 P (spK P i) = i then spJ P R i else if spJ P R i < R then spJ P R i + 1 else spJ P R i
def spO (P d : List Int) (n : Int) : Nat → List Int
 | 0 => List.replicate n.toNat 0
 | i + 1 => if spK P i < P.length ∧ ix 0 P (spK P i) = i then spO P d n i else if spJ P d.length i < d.length then (spO P d n i).set i (ix 0 d (spJ P d.length i)) else spO P d n i
def sprd (n : Int) (P d : List Int) : List Int := spO P d n n.toNat
@[simp] theorem length_spO (P d : List Int) (n : Int) : ∀ i : Nat, (spO P d n i).length = n.toNat
 | 0 => List.length_replicate
 | i + 1 => by
  unfold spO
  split
  ·exact length_spO P d n i
  ·split
   ·rw [List.length_set]; exact length_spO P d n i
   ·exact length_spO P d n i
section
variable {P : List Int} (hi : ∀ a b : Int, 0 ≤ a → a < b → b < P.length → ix 0 P a < ix 0 P b) (h0 : ∀ a : Int, 0 ≤ a → a < P.length → 0 ≤ ix 0 P a)
include hi h0
end
@[simp] theorem length_sprd (n : Int) (P d : List Int) : (sprd n P d).length = n.toNat := length_spO _ _ _ _
noncomputable def cosW (c : Cod) (i : Int) : List Int := sprd c.N (canP c.F c.m) (dgs c.F.q (dua c).Gen.length i)
namespace COk
variable {c : Cod}
end COk
end Go.Cw
set_option linter.unusedVariables false
set_option linter.unusedSimpArgs false
set_option linter.unusedSectionVars false
namespace Go.Cw
def ld : List Int → Int
 | [] => 0
 | x :: l => if x = 0 then ld l + 1 else 0
section
variable {P d : List Int} {n R i : Int} (h0 : 0 ≤ i)
include h0
end
def bnR (n m : Int) : List Int := mapR (fun z => binT m.toNat z) (n + 1)
def bnL (n m k : Int) : List Int := mapR (fun z => if k < z then binT m.toNat z else binT (m - 1).toNat z) (n + 1)
@[simp] theorem length_bnR (n m : Int) : (bnR n m).length = (n + 1).toNat := length_mapR _ _
@[simp] theorem length_bnL (n m k : Int) : (bnL n m k).length = (n + 1).toNat := length_mapR _ _
noncomputable def totL (c : Cod) (i : Int) : List Int := mapR (fun j => smT (fun t => ix 0 (coL c (cosW c t)) j) i.toNat) (c.N + 1)
@[simp] theorem length_totL (c : Cod) (i : Int) : (totL c i).length = (c.N + 1).toNat := length_mapR _ _
end Go.Cw
set_option linter.unusedVariables false
set_option linter.unusedSimpArgs false
set_option linter.unusedSectionVars false
namespace Go.Cw
def synL (c : Cod) (y : List Int) : List Int := mapR (fun i => dotF c.F (ix [] (dua c).Gen i) y) (dua c).Gen.length
@[simp] theorem length_synL (c : Cod) (y : List Int) : (synL c y).length = (dua c).Gen.length := by unfold synL; rw [length_mapR]; omega
def colS (D : List (List Int)) (n j m : Int) : List (List Int) := mapR (fun i => if i < j then D.map (fun r => ix 0 r i) else if i = j then (D.take m.toNat).map (fun r => ix 0 r i) else []) n
@[simp] theorem length_colS (D : List (List Int)) (n j m : Int) : (colS D n j m).length = n.toNat := length_mapR _ _
end Go.Cw
set_option linter.unusedVariables false
set_option linter.unusedSimpArgs false
set_option linter.unusedSectionVars false
namespace Go.Cw
def sufL (G : Int → Int) (n i : Int) : List Int := mapR (fun z => if i < z then G z else 0) n
@[simp] theorem length_sufL (G : Int → Int) (n i : Int) : (sufL G n i).length = n.toNat := length_mapR _ _
def dig (q n x i : Int) : Int := x / q ^ (n - 1 - i).toNat % q
def colC (rows : List (List Int)) (j : Int) : List Int := rows.map fun row => ix 0 row j
@[simp] theorem length_colC (rows : List (List Int)) (j : Int) : (colC rows j).length = rows.length := by simp [colC]
def dcol (c : Cod) (j : Int) : List Int := ix [] (turnL (dua c).Gen c.N) j
def minV (c : Cod) (x j a : Int) : Int := valD c.F.q (mapR (fun i => addF c.F (dig c.F.q (dua c).Gen.length x i) (negF c.F (mulF c.F a (ix 0 (dcol c j) i)))) (dua c).Gen.length)
def rowS (G : Int → Int → Int) (M n s m : Int) : List (List Int) := mapR (fun i => if i < s then mapR (G i) M else if i = s then mapR (G i) m else []) n
@[simp] theorem length_rowS (G : Int → Int → Int) (M n s m : Int) : (rowS G M n s m).length = n.toNat := length_mapR _ _
end Go.Cw
set_option linter.unusedVariables false
set_option linter.unusedSimpArgs false
set_option linter.unusedSectionVars false
namespace Go.Cw
abbrev Lab := Int × Int × Int
def lbl (ls : List Lab) (x : Int) : Lab := ix (0, 0, 0) ls x
def LabOk (c : Cod) (ls : List Lab) (x : Int) : Prop :=
 (0 ≤ (lbl ls x).2.1 ∧ (lbl ls x).2.1 < c.N ∧ 1 ≤ (lbl ls x).2.2 ∧ (lbl ls x).2.2 < c.F.q) ∧ 1 ≤ (lbl ls x).1 ∧ (lbl ls (minV c x (lbl ls x).2.1 (lbl ls x).2.2)).1 = (lbl ls x).1 - 1
def Step3 (c : Cod) (ls : List Lab) (x j a : Int) : Prop := ¬ ((lbl ls x).1 + 1 < (lbl ls (minV c x j a)).1 ∨ (lbl ls (minV c x j a)).1 < (lbl ls x).1 - 1)
def Step3R (c : Cod) (ls : List Lab) (x j a : Int) : Prop := ¬ ((lbl ls x).1 + 1 < (lbl ls (minV c x j a)).1)
structure Prv (c : Cod) (ls : List Lab) : Prop where
 len : (ls.length : Int) = c.F.q ^ (dua c).Gen.length
 zero : lbl ls 0 = (0, 0, 0)
 two : ∀ x : Int, 1 ≤ x → x < c.F.q ^ (dua c).Gen.length → LabOk c ls x
 three : ∀ x j a : Int, 0 ≤ x → x < c.F.q ^ (dua c).Gen.length → 0 ≤ j → j < c.N → 1 ≤ a → a < c.F.q → Step3 c ls x j a
structure PrvR (c : Cod) (ls : List Lab) : Prop where
 len : (ls.length : Int) = c.F.q ^ (dua c).Gen.length
 zero : lbl ls 0 = (0, 0, 0)
 two : ∀ x : Int, 1 ≤ x → x < c.F.q ^ (dua c).Gen.length → LabOk c ls x ∧ (lbl ls x).1 ≤ c.N
 three : ∀ x j a : Int, 0 ≤ x → x < c.F.q ^ (dua c).Gen.length → 0 ≤ j → j < c.N → 1 ≤ a → a < c.F.q → Step3R c ls x j a
noncomputable instance (c : Cod) (ls : List Lab) : Decidable (Prv c ls) := Classical.propDecidable _
noncomputable instance (c : Cod) (ls : List Lab) : Decidable (PrvR c ls) := Classical.propDecidable _
end Go.Cw
set_option linter.unusedVariables false
set_option linter.unusedSimpArgs false
set_option linter.unusedSectionVars false
namespace Go.Cw
structure Clm where
 C : Cod
 L : List Lab
 Y : List Int
 M : List Int
 S : Int
end Go.Cw
set_option linter.unusedVariables false
set_option linter.unusedSimpArgs false
set_option linter.unusedSectionVars false
namespace Go.Cw
section
variable {c : Cod} (hk : COk c) {ls : List Lab} (hp : Prv c ls)
include hk hp
end
end Go.Cw
set_option linter.unusedVariables false
set_option linter.unusedSimpArgs false
set_option linter.unusedSectionVars false
namespace Go.Cw
noncomputable def restC (c : Cod) (w : List Int) : Nat → List Int
 | 0 => w
 | k + 1 => addTo c.F (restC c w k) (negF c.F (ix 0 w (ix 0 (canP c.F c.m) k))) (ix [] c.Gen k)
theorem length_restC (c : Cod) (w : List Int) : ∀ k, (restC c w k).length = w.length
 | 0 => rfl
 | k + 1 => by rw [restC, length_addTo, length_restC c w k]
section
variable {c : Cod} (hk : COk c)
include hk
end
end Go.Cw
set_option linter.unusedVariables false
set_option linter.unusedSimpArgs false
set_option linter.unusedSectionVars false
namespace Go.Cw
namespace Cnv
variable (c : Cnv)
def co (i j d : Int) : Int := ix 0 (ix [] (ix [] c.Gen i) j) d
section
variable {c}
end
section
variable {c}
end
section
variable {c}
end
end Cnv
end Go.Cw
set_option linter.unusedVariables false
set_option linter.unusedSimpArgs false
set_option linter.unusedSectionVars false
namespace Go.Cw
section
variable {f : Fld} (h : FOk f) {N : Int} {X : List (List Int)} (hX : good f N.toNat X)
include h hX
end
section
variable {c : Cod} (hk : COk c)
include hk
end
namespace Cnv
variable {c : Cnv}
end Cnv
end Go.Cw
