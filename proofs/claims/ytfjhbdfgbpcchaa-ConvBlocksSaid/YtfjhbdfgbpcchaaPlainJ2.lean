/-
  Plain facts.
-/
import Derived.Test.YtfjhbdfgbpcchaaPlainJ1
set_option linter.unusedVariables false
set_option linter.unusedSimpArgs false
set_option linter.unusedSectionVars false
namespace Go.Cw
theorem canR_idem {f : Fld} {n : Nat} {X : List (List Int)} (h : FOk f) (hX : good f n X) : canR (elim f (canR (elim f X [] n)) [] n) = canR (elim f X [] n) := by
 have hg := canR_good h.1 hX n
 have hl := length_canR f X n
 have s1 := elim_span h hX n
 refine (can_uniq h hg hX (fun i hi => ?_) (fun i hi => ?_)).2
 ·rw [km_canR h (by omega)]
  exact s1.1 i (by have := piv_le f X [] n; omega)
 ·have hm : ix [] X i ∈ X := ix_mem [] X (i := (i : Int)) (by omega) (by omega)
  have e := can_row h hX hm
  have hk : km h X i = kv h (ix [] X i) := by rw [ix_nat]; rfl
  rw [hk, <- e, kv_comb h (fun l hl' => by have := (hg l hl').1; omega) (by simp; omega)]
  exact ⟨_, rfl⟩
def dua (c : Cod) : Cod := ⟨c.F, c.N, nullR c.F c.Gen c.N⟩
namespace COk
variable {c : Cod}
theorem rows_can (hk : COk c) : canR (elim c.F c.Gen [] c.N.toNat) = c.Gen := by
 have := hk.can
 rw [canM_ok hk.mat] at this
 exact this
theorem good (hk : COk c) : good c.F c.N.toNat c.Gen := mat_good hk.gmat
theorem dim_dua (hk : COk c) : ((dua c).Gen.length : Int) + c.Gen.length = c.N := by
 have hd := null_dim hk.fld hk.good
 have hl := length_canR c.F c.Gen c.N.toNat
 have hn := hk.n1
 rw [hk.rows_can] at hl
 show ((nullR c.F c.Gen c.N).length : Int) + _ = _
 rw [show ((c.N.toNat : Nat) : Int) = c.N by omega] at hd
 omega
theorem good_dua (hk : COk c) : Go.Cw.good c.F c.N.toNat (dua c).Gen := canR_good hk.fld.1 (ker_good hk.fld.1 _ _ _ _) _
theorem mat_dua (hk : COk c) : mErr c.F ⟨c.N, (dua c).Gen⟩ = 0 := by
 have hn := hk.n1; have h64 := hk.n64; have hd := hk.dim_dua
 exact mErr_zero.2 ⟨hk.fld, good_mat (by show 0 <= c.N; omega) (by show c.N <= 256; omega) (by show (dua c).Gen.length <= 256; omega) hk.good_dua⟩
theorem dua (hk : COk c) : COk (dua c) where
 fld := hk.fld
 n1 := hk.n1
 n64 := hk.n64
 mat := hk.mat_dua
 can := by
  show (canM c.F ⟨c.N, (Go.Cw.dua c).Gen⟩).rows = (Go.Cw.dua c).Gen
  rw [canM_ok hk.mat_dua]
  exact canR_idem hk.fld (ker_good hk.fld.1 _ _ _ _)
end COk
structure Tly where
 dual : Bool
 count : List Int
end Go.Cw
set_option linter.unusedVariables false
set_option linter.unusedSimpArgs false
set_option linter.unusedSectionVars false
namespace Go.Cw
def binT : Nat -> Int -> Int
 | 0, j => if j = 0 then 1 else 0
 | n + 1, j => binT n j + binT n (j - 1)
def spK (P : List Int) : Nat -> Int
 | 0 => 0
 | i + 1 => if spK P i < P.length /\ ix 0 P (spK P i) = i then spK P i + 1 else spK P i
def spJ (P : List Int) (R : Int) : Nat -> Int
 | 0 => 0
 | i + 1 => if spK P i < P.length /\ ix 0 P (spK P i) = i then spJ P R i else if spJ P R i < R then spJ P R i + 1 else spJ P R i
def spO (P d : List Int) (n : Int) : Nat -> List Int
 | 0 => List.replicate n.toNat 0
 | i + 1 => if spK P i < P.length /\ ix 0 P (spK P i) = i then spO P d n i else if spJ P d.length i < d.length then (spO P d n i).set i (ix 0 d (spJ P d.length i)) else spO P d n i
def sprd (n : Int) (P d : List Int) : List Int := spO P d n n.toNat
@[simp] theorem length_spO (P d : List Int) (n : Int) : ∀ i : Nat, (spO P d n i).length = n.toNat
 | 0 => List.length_replicate
 | i + 1 => by
  unfold spO
  split
  ·exact length_spO P d n i
  ·split
   ·rw [List.length_set]; exact length_spO P d n i
   ·exact length_spO P d n i
section
variable {P : List Int} (hi : ∀ a b : Int, 0 <= a -> a < b -> b < P.length -> ix 0 P a < ix 0 P b) (h0 : ∀ a : Int, 0 <= a -> a < P.length -> 0 <= ix 0 P a)
include hi h0
end
@[simp] theorem length_sprd (n : Int) (P d : List Int) : (sprd n P d).length = n.toNat := length_spO _ _ _ _
noncomputable def cosW (c : Cod) (i : Int) : List Int := sprd c.N (canP c.F c.m) (dgs c.F.q (dua c).Gen.length i)
namespace COk
variable {c : Cod}
end COk
end Go.Cw
set_option linter.unusedVariables false
set_option linter.unusedSimpArgs false
set_option linter.unusedSectionVars false
namespace Go.Cw
def ld : List Int -> Int
 | [] => 0
 | x :: l => if x = 0 then ld l + 1 else 0
section
variable {P d : List Int} {n R i : Int} (h0 : 0 <= i)
include h0
end
def bnR (n m : Int) : List Int := mapR (fun z => binT m.toNat z) (n + 1)
def bnL (n m k : Int) : List Int := mapR (fun z => if k < z then binT m.toNat z else binT (m - 1).toNat z) (n + 1)
@[simp] theorem length_bnR (n m : Int) : (bnR n m).length = (n + 1).toNat := A_o _ _
@[simp] theorem length_bnL (n m k : Int) : (bnL n m k).length = (n + 1).toNat := A_o _ _
noncomputable def totL (c : Cod) (i : Int) : List Int := mapR (fun j => smT (fun t => ix 0 (coL c (cosW c t)) j) i.toNat) (c.N + 1)
@[simp] theorem length_totL (c : Cod) (i : Int) : (totL c i).length = (c.N + 1).toNat := A_o _ _
end Go.Cw
set_option linter.unusedVariables false
set_option linter.unusedSimpArgs false
set_option linter.unusedSectionVars false
namespace Go.Cw
def synL (c : Cod) (y : List Int) : List Int := mapR (fun i => dotF c.F (ix [] (dua c).Gen i) y) (dua c).Gen.length
@[simp] theorem length_synL (c : Cod) (y : List Int) : (synL c y).length = (dua c).Gen.length := by unfold synL; rw [A_o]; omega
def colS (D : List (List Int)) (n j m : Int) : List (List Int) := mapR (fun i => if i < j then D.map (fun r => ix 0 r i) else if i = j then (D.take m.toNat).map (fun r => ix 0 r i) else []) n
@[simp] theorem length_colS (D : List (List Int)) (n j m : Int) : (colS D n j m).length = n.toNat := A_o _ _
end Go.Cw
set_option linter.unusedVariables false
set_option linter.unusedSimpArgs false
set_option linter.unusedSectionVars false
namespace Go.Cw
def sufL (G : Int -> Int) (n i : Int) : List Int := mapR (fun z => if i < z then G z else 0) n
@[simp] theorem length_sufL (G : Int -> Int) (n i : Int) : (sufL G n i).length = n.toNat := A_o _ _
def dig (q n x i : Int) : Int := x / q ^ (n - 1 - i).toNat % q
def colC (rows : List (List Int)) (j : Int) : List Int := rows.map fun row => ix 0 row j
@[simp] theorem length_colC (rows : List (List Int)) (j : Int) : (colC rows j).length = rows.length := by simp [colC]
def dcol (c : Cod) (j : Int) : List Int := ix [] (turnL (dua c).Gen c.N) j
def minV (c : Cod) (x j a : Int) : Int := valD c.F.q (mapR (fun i => addF c.F (dig c.F.q (dua c).Gen.length x i) (negF c.F (mulF c.F a (ix 0 (dcol c j) i)))) (dua c).Gen.length)
def rowS (G : Int -> Int -> Int) (M n s m : Int) : List (List Int) := mapR (fun i => if i < s then mapR (G i) M else if i = s then mapR (G i) m else []) n
@[simp] theorem length_rowS (G : Int -> Int -> Int) (M n s m : Int) : (rowS G M n s m).length = n.toNat := A_o _ _
end Go.Cw
set_option linter.unusedVariables false
set_option linter.unusedSimpArgs false
set_option linter.unusedSectionVars false
namespace Go.Cw
abbrev Lab := Int × Int × Int
def lbl (ls : List Lab) (x : Int) : Lab := ix (0, 0, 0) ls x
def LabOk (c : Cod) (ls : List Lab) (x : Int) : Prop :=
 (0 <= (lbl ls x).2.1 /\ (lbl ls x).2.1 < c.N /\ 1 <= (lbl ls x).2.2 /\ (lbl ls x).2.2 < c.F.q) /\ 1 <= (lbl ls x).1 /\ (lbl ls (minV c x (lbl ls x).2.1 (lbl ls x).2.2)).1 = (lbl ls x).1 - 1
def Step3 (c : Cod) (ls : List Lab) (x j a : Int) : Prop := ¬ ((lbl ls x).1 + 1 < (lbl ls (minV c x j a)).1 \/ (lbl ls (minV c x j a)).1 < (lbl ls x).1 - 1)
def Step3R (c : Cod) (ls : List Lab) (x j a : Int) : Prop := ¬ ((lbl ls x).1 + 1 < (lbl ls (minV c x j a)).1)
structure Prv (c : Cod) (ls : List Lab) : Prop where
 len : (ls.length : Int) = c.F.q ^ (dua c).Gen.length
 zero : lbl ls 0 = (0, 0, 0)
 two : ∀ x : Int, 1 <= x -> x < c.F.q ^ (dua c).Gen.length -> LabOk c ls x
 three : ∀ x j a : Int, 0 <= x -> x < c.F.q ^ (dua c).Gen.length -> 0 <= j -> j < c.N -> 1 <= a -> a < c.F.q -> Step3 c ls x j a
structure PrvR (c : Cod) (ls : List Lab) : Prop where
 len : (ls.length : Int) = c.F.q ^ (dua c).Gen.length
 zero : lbl ls 0 = (0, 0, 0)
 two : ∀ x : Int, 1 <= x -> x < c.F.q ^ (dua c).Gen.length -> LabOk c ls x /\ (lbl ls x).1 <= c.N
 three : ∀ x j a : Int, 0 <= x -> x < c.F.q ^ (dua c).Gen.length -> 0 <= j -> j < c.N -> 1 <= a -> a < c.F.q -> Step3R c ls x j a
noncomputable instance (c : Cod) (ls : List Lab) : Decidable (Prv c ls) := Classical.propDecidable _
noncomputable instance (c : Cod) (ls : List Lab) : Decidable (PrvR c ls) := Classical.propDecidable _
end Go.Cw
set_option linter.unusedVariables false
set_option linter.unusedSimpArgs false
set_option linter.unusedSectionVars false
namespace Go.Cw
structure Clm where
 C : Cod
 L : List Lab
 Y : List Int
 M : List Int
 S : Int
end Go.Cw
set_option linter.unusedVariables false
set_option linter.unusedSimpArgs false
set_option linter.unusedSectionVars false
namespace Go.Cw
section
variable {c : Cod} (hk : COk c) {ls : List Lab} (hp : Prv c ls)
include hk hp
end
end Go.Cw
set_option linter.unusedVariables false
set_option linter.unusedSimpArgs false
set_option linter.unusedSectionVars false
namespace Go.Cw
section
variable {c : Cod} (hk : COk c)
include hk
end
end Go.Cw
set_option linter.unusedVariables false
set_option linter.unusedSimpArgs false
set_option linter.unusedSectionVars false
namespace Go.Cw
namespace Cnv
theorem rowDeg_of_mem (row : List (List Int)) {j : Int} (h0 : 0 <= j) (h1 : j < row.length) : (trimN (ix [] row j) : Int) - 1 <= degOf row := by
 have key : ∀ n : Nat, j < n -> (trimN (ix [] row j) : Int) - 1 <= rowDeg row n := by
  intro n
  induction n with
  | zero => intro h; omega
  | succ n ih =>
   intro h
   simp only [rowDeg]
   by_cases hj : j = (n : Int)
   ·rw [<- hj]; omega
   ·have := ih (by omega); omega
 exact key row.length (by omega)
theorem gen_zero (c : Cnv) {i j : Int} (j0 : 0 <= j) (j1 : j < (ix [] c.Gen i).length) {d : Int} (hd : c.deg i < d) : ix 0 (ix [] (ix [] c.Gen i) j) d = 0 := by
 have h := rowDeg_of_mem (ix [] c.Gen i) j0 j1
 have := c.deg_nonneg i
 exact trimN_after _ _ (by unfold deg at hd; omega)
end Cnv
end Go.Cw
set_option linter.unusedVariables false
set_option linter.unusedSimpArgs false
set_option linter.unusedSectionVars false
namespace Go.Cw
namespace Cnv
variable {c : Cnv} {s : Int} {inn : List Int}
def dg (c : Cnv) (s i d : Int) : Int := s / c.fst i / c.F.q ^ d.toNat % c.F.q
def GoodU (c : Cnv) (us : List (List Int)) : Prop := ∀ u ∈ us, c.GoodIn u
noncomputable def stepsErr (c : Cnv) : List (List Int) -> Int
 | [] => 0
 | u :: us => if c.inErr u = 0 then stepsErr c us else c.inErr u
theorem stepsErr_zero {c : Cnv} : ∀ {us : List (List Int)}, c.stepsErr us = 0 ↔ c.GoodU us
 | [] => ⟨fun _ u h => absurd h (by simp), fun _ => rfl⟩
 | u :: us => by
  unfold stepsErr
  by_cases h : c.inErr u = 0
  ·rw [if_pos h, stepsErr_zero]
   constructor
   ·intro g v hv
    rcases List.mem_cons.1 hv with rfl | hv
    ·exact inErr_zero.1 h
    ·exact g v hv
   ·exact fun g v hv => g v (List.mem_cons_of_mem _ hv)
  ·rw [if_neg h]
   exact ⟨fun g => absurd g h, fun g => absurd (inErr_zero.2 (g u (by simp))) h⟩
def OkTo (c : Cnv) (us : List (List Int)) (t : Int) : Prop := ∀ u ∈ us.take t.toNat, c.inErr u = 0
theorem OkTo.zero (c : Cnv) (us : List (List Int)) : c.OkTo us 0 := by intro u h; simp at h
theorem OkTo.succ {us : List (List Int)} {t : Int} (h : c.OkTo us t) (h0 : 0 <= t) (h1 : t < us.length) (h2 : c.inErr (ix [] us t) = 0) : c.OkTo us (t + 1) := by
 intro u hu
 rw [take_succ_ix [] us h0 h1] at hu
 rcases List.mem_append.1 hu with hu | hu
 ·exact h u hu
 ·rw [List.mem_singleton] at hu; rw [hu]; exact h2
theorem OkTo.all {us : List (List Int)} {t : Int} (h : c.OkTo us t) (h1 : us.length <= t) : c.stepsErr us = 0 := by
 refine stepsErr_zero.2 fun u hu => inErr_zero.1 (h u ?_)
 rw [List.take_of_length_le (by omega)]; exact hu
theorem GoodU.at {us : List (List Int)} (h : c.GoodU us) {t : Int} (h0 : 0 <= t) (h1 : t < us.length) : c.GoodIn (ix [] us t) := h _ (ix_mem [] us h0 h1)
def back (us : List (List Int)) (i t : Int) : List Int := mapR (fun d => ix 0 (ix [] us (t - d)) i) (t + 1)
theorem ix_back (us : List (List Int)) {i t d : Int} (d0 : 0 <= d) (d1 : d <= t) : ix 0 (back us i t) d = ix 0 (ix [] us (t - d)) i := ix_mapR 0 _ d0 (by omega)
def refTo (c : Cnv) (us : List (List Int)) (t j : Int) : Nat -> Int
 | 0 => 0
 | i + 1 => accF c.F (refTo c us t j i) (ix [] (ix [] c.Gen i) j) (back us i t) (min (t + 1) ((ix [] (ix [] c.Gen i) j).length : Int)).toNat
theorem refTo_succ (c : Cnv) (us : List (List Int)) (t j : Int) {i : Int} (h : 0 <= i) : c.refTo us t j (i + 1).toNat = accF c.F (c.refTo us t j i.toNat) (ix [] (ix [] c.Gen i) j) (back us i t) (min (t + 1) ((ix [] (ix [] c.Gen i) j).length : Int)).toNat := by
 rw [show (i + 1).toNat = i.toNat + 1 by omega, refTo, show ((i.toNat : Nat) : Int) = i by omega]
theorem refTo_lt (h : Shape c.F) (us : List (List Int)) (t j : Int) : ∀ i, 0 <= c.refTo us t j i /\ c.refTo us t j i < c.F.q
 | 0 => by have := h.bd; simp only [refTo]; omega
 | i + 1 => by rw [refTo]; exact accF_lt h (refTo_lt h us t j i).1 (refTo_lt h us t j i).2 _ _ _
def refR (c : Cnv) (us : List (List Int)) (t : Int) : List Int := mapR (fun jj => c.refTo us t jj c.Gen.length) c.n
def refL (c : Cnv) (us : List (List Int)) : List (List Int) := mapR (c.refR us) us.length
theorem ix_ge (l : List Int) {i : Int} (h : (l.length : Int) <= i) : ix 0 l i = 0 := by unfold ix; simp [List.getD]; rw [List.getElem?_eq_none (by omega)]; rfl
end Cnv
end Go.Cw
namespace Go.Cw
theorem ix_set_self (l : List Int) {i : Int} (v : Int) (h0 : 0 <= i) (h1 : i < l.length) : ix 0 (l.set i.toNat v) i = v := by
 have hi : i.toNat < l.length := by omega
 unfold ix; simp [List.getD, hi]
theorem set_fill0 (F : Int -> Int) {n v : Int} (h0 : 0 <= v) (h1 : v < n) : (fillR F 0 n v).set v.toNat 0 = fillR F 0 n v := by
 unfold fillR
 have hl : (mapR F v).length = v.toNat := A_o F v
 rw [List.set_append_right _ _ (by omega), hl, Nat.sub_self]
 congr 1
 rw [show (n - v).toNat = (n - v).toNat - 1 + 1 by omega, List.replicate_succ, List.set_cons_zero]
namespace Cnv
end Cnv
end Go.Cw
set_option linter.unusedVariables false
set_option linter.unusedSimpArgs false
set_option linter.unusedSectionVars false
namespace Go.Cw
namespace Cnv
variable {c : Cnv}
def zrow (c : Cnv) : List Int := List.replicate c.Gen.length 0
def termTo (c : Cnv) (us : List (List Int)) (d : Int) : List (List Int) := us ++ List.replicate d.toNat c.zrow
def term (c : Cnv) (us : List (List Int)) : List (List Int) := c.termTo us c.mem
theorem termTo_succ (us : List (List Int)) {d : Int} (h : 0 <= d) : c.termTo us (d + 1) = c.termTo us d ++ [c.zrow] := by
 unfold termTo
 rw [show (d + 1).toNat = d.toNat + 1 by omega, List.replicate_succ', List.append_assoc]
theorem length_termTo (us : List (List Int)) (d : Int) : (c.termTo us d).length = us.length + d.toNat := by unfold termTo; simp
theorem maxD_ge (c : Cnv) : ∀ (n : Nat) (i : Int), 0 <= i -> i < n -> c.deg i <= c.maxD n
 | 0, i, h0, h1 => by omega
 | n + 1, i, h0, h1 => by
  simp only [maxD]
  by_cases h : i = n
  ·rw [h]; omega
  ·have := maxD_ge c n i h0 (by omega); omega
theorem deg_le_mem {i : Int} (h0 : 0 <= i) (h1 : i < c.Gen.length) : c.deg i <= c.mem := maxD_ge c _ i h0 h1
theorem Few.mem_le (h : c.Few) : c.mem <= 40 := by
 have key : ∀ n : Nat, n <= c.Gen.length -> c.maxD n <= 40 := by
  intro n
  induction n with
  | zero => intro _; simp [maxD]
  | succ n ih =>
   intro hn
   have := ih (by omega)
   have := h.deg_le n (by omega) (by unfold k; omega)
   simp only [maxD]; omega
 exact key _ (Nat.le_refl _)
theorem zrow_good (hq : 2 <= c.F.q) : c.GoodIn c.zrow := by
 refine ⟨by unfold zrow k; simp, ?_⟩
 rintro ⟨x, hx, hb⟩
 have := List.eq_of_mem_replicate hx
 omega
theorem GoodU.term {us : List (List Int)} (hq : 2 <= c.F.q) (h : c.GoodU us) (d : Int) : c.GoodU (c.termTo us d) := by
 intro u hu
 rcases List.mem_append.1 hu with hu | hu
 ·exact h u hu
 ·rw [List.eq_of_mem_replicate hu]; exact zrow_good hq
theorem ix_term_tail (us : List (List Int)) {d t i : Int} (h0 : us.length <= t) (h1 : t < us.length + d.toNat) : ix 0 (ix [] (c.termTo us d) t) i = 0 := by
 have : ix [] (c.termTo us d) t = c.zrow := by
  unfold ix termTo
  simp only [List.getD]
  rw [List.getElem?_append_right (by omega), List.getElem?_replicate, if_pos (by omega)]; rfl
 rw [this]
 unfold zrow; exact ix_replicate0 _ _
end Cnv
end Go.Cw
namespace Go.Cw
end Go.Cw
set_option linter.unusedVariables false
set_option linter.unusedSimpArgs false
set_option linter.unusedSectionVars false
namespace Go.Cw
theorem pl_div {τ n j : Int} (j0 : 0 <= j) (j1 : j < n) : (τ * n + j) / n = τ /\ (τ * n + j) % n = j := by
 constructor
 ·rw [Int.add_comm, Int.add_mul_ediv_right _ _ (by omega), Int.ediv_eq_zero_of_lt j0 j1, Int.zero_add]
 ·rw [Int.add_comm, Int.add_mul_emod_self_right]; exact Int.emod_eq_of_lt j0 j1
theorem pl_rng {τ n j len : Int} (t0 : 0 <= τ) (t1 : τ < len) (j0 : 0 <= j) (j1 : j < n) : 0 <= τ * n + j /\ τ * n + j < n * len := by
 have h1 := Int.mul_nonneg t0 (show 0 <= n by omega)
 have h2 := Int.mul_le_mul_of_nonneg_right (show τ + 1 <= len by omega) (show 0 <= n by omega)
 rw [Int.add_mul, Int.one_mul, Int.mul_comm len n] at h2
 omega
theorem pl_split {p n len : Int} (hn : 1 <= n) (p0 : 0 <= p) (p1 : p < n * len) : 0 <= p / n /\ p / n < len /\ 0 <= p % n /\ p % n < n /\ p = p / n * n + p % n := by
 have h1 := Int.mul_ediv_add_emod p n
 rw [Int.mul_comm] at h1
 exact ⟨Int.ediv_nonneg p0 (by omega), Int.ediv_lt_of_lt_mul (by omega) (by rw [Int.mul_comm]; exact p1), Int.emod_nonneg _ (by omega), Int.emod_lt_of_pos _ (by omega), h1.symm⟩
theorem ix_apg {α : Type} (d : α) {a b : List α} {j : Int} (h0 : 0 <= j) (h1 : j < a.length) : ix d (a ++ b) j = ix d a j := by
 unfold ix
 simp only [List.getD]
 rw [List.getElem?_append_left (by omega)]
theorem ix_bkr {a b : List Int} {n j : Int} (hl : (a.length : Int) = n) (h1 : n <= j) : ix 0 (a ++ b) j = ix 0 b (j - n) := by
 unfold ix
 simp only [List.getD]
 rw [List.getElem?_append_right (by omega), show j.toNat - a.length = (j - n).toNat by omega]
def fltTo (X : List (List Int)) : Nat -> List Int
 | 0 => []
 | k + 1 => fltTo X k ++ ix [] X k
theorem fltTo_succ (X : List (List Int)) {i : Int} (h : 0 <= i) : fltTo X (i + 1).toNat = fltTo X i.toNat ++ ix [] X i := by
 rw [show (i + 1).toNat = i.toNat + 1 by omega, fltTo, show ((i.toNat : Nat) : Int) = i by omega]
theorem fltTo_len {X : List (List Int)} {n : Int} (hn : 0 <= n) : ∀ {k : Nat}, (∀ z : Int, 0 <= z -> z < k -> ((ix [] X z).length : Int) = n) -> ((fltTo X k).length : Int) = n * k
 | 0, _ => by simp [fltTo]
 | k + 1, h => by
  have ih := fltTo_len (X := X) hn (k := k) fun z z0 z1 => h z z0 (by omega)
  have := h k (by omega) (by omega)
  rw [fltTo, List.length_append, Int.natCast_add, ih, this, Int.natCast_add, Int.mul_add]
  simp
theorem ix_fltTo {X : List (List Int)} {n : Int} (hn : 1 <= n) : ∀ {k : Nat}, (∀ z : Int, 0 <= z -> z < k -> ((ix [] X z).length : Int) = n) -> ∀ {p : Int}, 0 <= p -> p < n * k -> ix 0 (fltTo X k) p = ix 0 (ix [] X (p / n)) (p % n)
 | 0, _, p, p0, p1 => by simp at p1; omega
 | k + 1, h, p, p0, p1 => by
  have hl := fltTo_len (X := X) (n := n) (by omega) (k := k) fun z z0 z1 => h z z0 (by omega)
  rw [fltTo]
  by_cases hp : p < n * k
  ·rw [ix_apg 0 p0 (by omega)]
   exact ix_fltTo hn (fun z z0 z1 => h z z0 (by omega)) p0 hp
  ·have hs := pl_split (len := ((k + 1 : Nat) : Int)) hn p0 p1
   have hd : p / n = k := by
    have h3 : (k : Int) <= p / n := (Int.le_ediv_iff_mul_le (by omega)).2 (by rw [Int.mul_comm]; omega)
    omega
   have hm : p - n * k = p % n := by rw [hd] at hs; rw [Int.mul_comm]; omega
   rw [ix_bkr hl (by omega), hd, <- hm]
namespace Cnv
variable (c : Cnv)
def co (i j d : Int) : Int := ix 0 (ix [] (ix [] c.Gen i) j) d
def blkE (len t i τ j : Int) : Nat -> Int
 | 0 => 0
 | d + 1 => if (t + (d : Int)) % len = τ then addF c.F (blkE len t i τ j d) (c.co i j d) else blkE len t i τ j d
theorem blkE_lt (hS : Shape c.F) (len t i τ j : Int) : ∀ d : Nat, 0 <= c.blkE len t i τ j d /\ c.blkE len t i τ j d < c.F.q
 | 0 => by have := hS.bd; show (0 : Int) <= 0 /\ 0 < c.F.q; omega
 | d + 1 => by
  unfold blkE
  split
  ·exact hS.addF_lt _ _
  ·exact blkE_lt hS len t i τ j d
theorem blkE_up (hS : Shape c.F) (len t i τ j : Int) {n : Nat} (hz : ∀ d : Nat, n <= d -> c.co i j d = 0) : ∀ k : Nat, c.blkE len t i τ j (n + k) = c.blkE len t i τ j n
 | 0 => rfl
 | k + 1 => by
  have ih := blkE_up hS len t i τ j hz k
  have hl := c.blkE_lt hS len t i τ j n
  rw [show n + (k + 1) = (n + k) + 1 by omega, blkE, ih, hz (n + k) (by omega), Shape.addF_zero hS, inF_id hl.1 hl.2, ite_self]
def blkR (len t i d j : Int) : List Int := mapR (fun p => c.blkE len t i (p / c.n) (p % c.n) (if p % c.n < j then (d + 1).toNat else d.toNat)) (c.n * len)
def tbR (len t i j d : Int) : List Int := mapR (fun p => if p % c.n < j then c.blkE len t i (p / c.n) (p % c.n) (ix [] (ix [] c.Gen i) (p % c.n)).length else if p % c.n = j then c.blkE len t i (p / c.n) (p % c.n) d.toNat else 0) (c.n * len)
section
variable {c}
theorem length_blkR (len t i d j : Int) : (c.blkR len t i d j).length = (c.n * len).toNat := A_o _ _
theorem length_tbR (len t i j d : Int) : (c.tbR len t i j d).length = (c.n * len).toNat := A_o _ _
theorem blkR_zero (hn : 1 <= c.n) (len t i : Int) : c.blkR len t i 0 0 = List.replicate (c.n * len).toNat 0 := by
 rw [<- mapR_const]
 refine mapR_congr fun p p0 p1 => ?_
 have := Int.emod_nonneg p (show c.n ≠ 0 by omega)
 rw [if_neg (by omega)]; rfl
theorem tbR_zero (hn : 1 <= c.n) (len t i : Int) : c.tbR len t i 0 0 = List.replicate (c.n * len).toNat 0 := by
 rw [<- mapR_const]
 refine mapR_congr fun p p0 p1 => ?_
 have := Int.emod_nonneg p (show c.n ≠ 0 by omega)
 rw [if_neg (by omega)]
 split <;> rfl
theorem blkR_next (hn : 1 <= c.n) (len t i : Int) {d j : Int} (hj : j = c.n) : c.blkR len t i d j = c.blkR len t i (d + 1) 0 := by
 refine mapR_congr fun p p0 p1 => ?_
 have h0 := Int.emod_nonneg p (show c.n ≠ 0 by omega)
 have h1 := Int.emod_lt_of_pos p (show 0 < c.n by omega)
 rw [if_pos (by omega), if_neg (by omega)]
theorem tbR_next (hn : 1 <= c.n) (len t i : Int) {j d : Int} (hd : d = (ix [] (ix [] c.Gen i) j).length) : c.tbR len t i j d = c.tbR len t i (j + 1) 0 := by
 refine mapR_congr fun p p0 p1 => ?_
 by_cases h1 : p % c.n < j
 ·rw [if_pos h1, if_pos (by omega)]
 ·by_cases h2 : p % c.n = j
  ·rw [if_neg h1, if_pos h2, if_pos (by omega), h2, hd]; rfl
  ·rw [if_neg h1, if_neg h2, if_neg (by omega)]
   split <;> rfl
theorem blkR_set {len t i d j τ : Int} (hτ : τ = (t + d) % len) (hl : 1 <= len) (d0 : 0 <= d) (j0 : 0 <= j) (j1 : j < c.n) :
  (c.blkR len t i d j).set (τ * c.n + j).toNat (addF c.F (ix 0 (c.blkR len t i d j) (τ * c.n + j)) (c.co i j d)) = c.blkR len t i d (j + 1) := by
 have t0 : 0 <= τ := by rw [hτ]; exact Int.emod_nonneg _ (by omega)
 have t1 : τ < len := by rw [hτ]; exact Int.emod_lt_of_pos _ (by omega)
 have hr := pl_rng (len := len) t0 t1 j0 j1
 have hd := pl_div (τ := τ) j0 j1
 have hat : ix 0 (c.blkR len t i d j) (τ * c.n + j) = c.blkE len t i τ j d.toNat := by
  unfold blkR; rw [ix_mapR 0 _ hr.1 hr.2, hd.1, hd.2, if_neg (by omega)]
 rw [hat]
 refine ext_ix 0 (by rw [List.length_set, length_blkR, length_blkR]) fun p p0 p1 => ?_
 rw [List.length_set, length_blkR] at p1
 have hs := pl_split (len := len) (show 1 <= c.n by omega) p0 (by omega)
 rw [ix_set _ hr.1 (by rw [length_blkR]; omega) p0]
 unfold blkR
 rw [ix_mapR 0 _ p0 (by omega), ix_mapR 0 _ p0 (by omega)]
 by_cases e : τ * c.n + j = p
 ·rw [if_pos e, <- e, hd.1, hd.2, if_pos (by omega), show (d + 1).toNat = d.toNat + 1 by omega, blkE, show ((d.toNat : Nat) : Int) = d by omega, if_pos hτ.symm]
 ·rw [if_neg e]
  by_cases h1 : p % c.n < j
  ·rw [if_pos h1, if_pos (by omega)]
  ·rw [if_neg h1]
   by_cases h2 : p % c.n = j
   ·have h3 : p / c.n ≠ τ := fun h => e (by rw [<- h, <- h2]; exact hs.2.2.2.2.symm)
    rw [if_pos (by omega), show (d + 1).toNat = d.toNat + 1 by omega, blkE, show ((d.toNat : Nat) : Int) = d by omega, if_neg (by rw [<- hτ]; exact fun h => h3 h.symm)]
   ·rw [if_neg (by omega)]
theorem tbR_set {len t i d j τ : Int} (hτ : τ = (t + d) % len) (hl : 1 <= len) (d0 : 0 <= d) (j0 : 0 <= j) (j1 : j < c.n) :
  (c.tbR len t i j d).set (τ * c.n + j).toNat (addF c.F (ix 0 (c.tbR len t i j d) (τ * c.n + j)) (c.co i j d)) = c.tbR len t i j (d + 1) := by
 have t0 : 0 <= τ := by rw [hτ]; exact Int.emod_nonneg _ (by omega)
 have t1 : τ < len := by rw [hτ]; exact Int.emod_lt_of_pos _ (by omega)
 have hr := pl_rng (len := len) t0 t1 j0 j1
 have hd := pl_div (τ := τ) j0 j1
 have hat : ix 0 (c.tbR len t i j d) (τ * c.n + j) = c.blkE len t i τ j d.toNat := by
  unfold tbR; rw [ix_mapR 0 _ hr.1 hr.2, hd.1, hd.2, if_neg (by omega), if_pos rfl]
 rw [hat]
 refine ext_ix 0 (by rw [List.length_set, length_tbR, length_tbR]) fun p p0 p1 => ?_
 rw [List.length_set, length_tbR] at p1
 have hs := pl_split (len := len) (show 1 <= c.n by omega) p0 (by omega)
 rw [ix_set _ hr.1 (by rw [length_tbR]; omega) p0]
 unfold tbR
 rw [ix_mapR 0 _ p0 (by omega), ix_mapR 0 _ p0 (by omega)]
 by_cases e : τ * c.n + j = p
 ·rw [if_pos e, <- e, hd.1, hd.2, if_neg (by omega), if_pos rfl, show (d + 1).toNat = d.toNat + 1 by omega, blkE, show ((d.toNat : Nat) : Int) = d by omega, if_pos hτ.symm]
 ·rw [if_neg e]
  by_cases h1 : p % c.n < j
  ·rw [if_pos h1, if_pos h1]
  ·rw [if_neg h1, if_neg h1]
   by_cases h2 : p % c.n = j
   ·have h3 : p / c.n ≠ τ := fun h => e (by rw [<- h, <- h2]; exact hs.2.2.2.2.symm)
    rw [if_pos h2, if_pos h2, show (d + 1).toNat = d.toNat + 1 by omega, blkE, show ((d.toNat : Nat) : Int) = d by omega, if_neg (by rw [<- hτ]; exact fun h => h3 h.symm)]
   ·rw [if_neg h2, if_neg h2]
theorem co_deg (hOk : c.Ok) {i j d : Int} (i0 : 0 <= i) (i1 : i < c.Gen.length) (j0 : 0 <= j) (j1 : j < c.n) (hd : c.deg i < d) : c.co i j d = 0 :=
 c.gen_zero (i := i) j0 (by rw [hOk.row i0 i1]; exact j1) hd
theorem co_len {i j d : Int} (hd : ((ix [] (ix [] c.Gen i) j).length : Int) <= d) : c.co i j d = 0 := ix_ge _ hd
theorem tbR_all (hOk : c.Ok) {len t i j : Int} (i0 : 0 <= i) (i1 : i < c.Gen.length) (hj : j = c.n) : c.tbR len t i j 0 = c.blkR len t i (c.deg i + 1) 0 := by
 have hS := hOk.fld.1
 have hk := hOk.kn
 refine mapR_congr fun p p0 p1 => ?_
 have h0 := Int.emod_nonneg p (show c.n ≠ 0 by omega)
 have h1 := Int.emod_lt_of_pos p (show 0 < c.n by omega)
 have hdn := c.deg_nonneg i
 rw [if_pos (by omega), if_neg (by omega)]
 by_cases hle : (ix [] (ix [] c.Gen i) (p % c.n)).length <= (c.deg i + 1).toNat
 ·have := c.blkE_up hS len t i (p / c.n) (p % c.n) (n := (ix [] (ix [] c.Gen i) (p % c.n)).length) (fun d hd => co_len (by omega)) ((c.deg i + 1).toNat - (ix [] (ix [] c.Gen i) (p % c.n)).length)
  rw [<- this]; congr 1; omega
 ·have := c.blkE_up hS len t i (p / c.n) (p % c.n) (n := (c.deg i + 1).toNat) (fun d hd => co_deg hOk i0 i1 h0 h1 (by omega)) ((ix [] (ix [] c.Gen i) (p % c.n)).length - (c.deg i + 1).toNat)
  rw [<- this]; congr 1; omega
end
def blkL (steps len : Int) : List (List Int) := mapR (fun z => c.blkR len (z / c.k) (z % c.k) (c.deg (z % c.k) + 1) 0) (steps * c.k)
section
variable {c}
theorem blkL_step {len t i : Int} (t0 : 0 <= t) (i0 : 0 <= i) (i1 : i < c.k) : mapR (fun z => c.blkR len (z / c.k) (z % c.k) (c.deg (z % c.k) + 1) 0) (t * c.k + i) ++ [c.blkR len t i (c.deg i + 1) 0] = mapR (fun z => c.blkR len (z / c.k) (z % c.k) (c.deg (z % c.k) + 1) 0) (t * c.k + (i + 1)) := by
 have h := Int.mul_nonneg t0 (show 0 <= c.k by omega)
 have hd := pl_div (τ := t) i0 i1
 rw [<- Int.add_assoc, mapR_succ _ (by omega), hd.1, hd.2]
theorem blkR_out (hS : Shape c.F) (len t i d j : Int) : ¬ outF c.F (c.blkR len t i d j) := outF_mapR fun _ _ _ => c.blkE_lt hS _ _ _ _ _ _
theorem blkL_good (hS : Shape c.F) (steps len : Int) : good c.F (c.n * len).toNat (c.blkL steps len) := by
 intro l hl
 unfold blkL at hl
 obtain ⟨z, z0, z1, rfl⟩ := mem_ix [] hl
 rw [A_o] at z1
 rw [ix_mapR [] _ z0 (by omega)]
 exact ⟨length_blkR _ _ _ _ _, blkR_out hS _ _ _ _ _⟩
end
def unitU (steps t i : Int) : List (List Int) := (List.replicate steps.toNat c.zrow).set t.toNat (c.zrow.set i.toNat 1)
section
variable {c}
theorem ix_unitU {steps t i : Int} (t0 : 0 <= t) (t1 : t < steps) (i0 : 0 <= i) (i1 : i < c.k) {s a : Int} (s0 : 0 <= s) (a0 : 0 <= a) : ix 0 (ix [] (c.unitU steps t i) s) a = if s = t /\ a = i then 1 else 0 := by
 have hz : ∀ a : Int, ix 0 c.zrow a = 0 := fun a => by unfold zrow; exact ix_zeros _ _
 unfold unitU
 rw [ix_setE [] _ _ t0 (by rw [List.length_replicate]; omega) s0]
 by_cases e : s = t
 ·rw [if_pos e, ix_setE 0 _ _ i0 (by unfold zrow; rw [List.length_replicate]; unfold k at i1; omega) a0]
  by_cases e2 : a = i
  ·rw [if_pos e2, if_pos ⟨e, e2⟩]
  ·rw [if_neg e2, if_neg (fun h => e2 h.2), hz]
 ·rw [if_neg e, if_neg (fun h => e h.1)]
  by_cases hs : s < steps
  ·rw [ix_repl _ _ s0 (by omega), hz]
  ·have : ix [] (List.replicate steps.toNat c.zrow) s = [] := by
    unfold ix; simp only [List.getD]; rw [List.getElem?_eq_none (by rw [List.length_replicate]; omega)]; rfl
   rw [this]; exact ix_nilI _
theorem unitU_good (hq : 2 <= c.F.q) {steps t i : Int} : c.GoodU (c.unitU steps t i) := by
 intro u hu
 have hzg := zrow_good (c := c) hq
 unfold unitU at hu
 rcases List.mem_or_eq_of_mem_set hu with h | h
 ·rw [List.eq_of_mem_replicate h]; exact hzg
 ·rw [h]
  refine ⟨by rw [List.length_set]; exact hzg.1, ?_⟩
  rintro ⟨x, hx, hb⟩
  rcases List.mem_or_eq_of_mem_set hx with h2 | h2
  ·exact hzg.2 ⟨x, h2, hb⟩
  ·rw [h2] at hb; exact hb ⟨by omega, by omega⟩
theorem length_unitU (steps t i : Int) : (c.unitU steps t i).length = steps.toNat := by unfold unitU; rw [List.length_set, List.length_replicate]
theorem ix_term_unit {steps t i : Int} (t0 : 0 <= t) (t1 : t < steps) (i0 : 0 <= i) (i1 : i < c.k) {s a : Int} (s0 : 0 <= s) (a0 : 0 <= a) : ix 0 (ix [] (c.term (c.unitU steps t i)) s) a = if s = t /\ a = i then 1 else 0 := by
 have hl := length_unitU (c := c) steps t i
 unfold term termTo
 by_cases hs : s < steps
 ·rw [show ix [] (c.unitU steps t i ++ List.replicate c.mem.toNat c.zrow) s = ix [] (c.unitU steps t i) s from ix_apg [] s0 (by omega)]
  exact ix_unitU t0 t1 i0 i1 s0 a0
 ·rw [if_neg (by omega)]
  by_cases h2 : s < (c.unitU steps t i).length + c.mem.toNat
  ·exact ix_term_tail (c := c) (c.unitU steps t i) (d := c.mem) (by omega) h2
  ·have : ix [] (c.unitU steps t i ++ List.replicate c.mem.toNat c.zrow) s = [] := by
    unfold ix; simp only [List.getD]; rw [List.getElem?_eq_none (by rw [List.length_append, List.length_replicate]; omega)]; rfl
   rw [this]; exact ix_nilI _
theorem ke_blkE (h : FOk c.F) {len t i τ j : Int} (t0 : 0 <= t) (τ1 : τ < len) : ∀ m : Nat, t + (m : Int) <= len -> ke h (c.blkE len t i τ j m) = if t <= τ /\ τ - t < m then ke h (c.co i j (τ - t)) else 0
 | 0, _ => by rw [if_neg (by omega)]; exact ke_zero h
 | m + 1, hm => by
  have ih := ke_blkE h (i := i) (j := j) t0 τ1 m (by omega)
  rw [blkE, Int.emod_eq_of_lt (by omega) (by omega)]
  by_cases e : t + (m : Int) = τ
  ·rw [if_pos e, ke_add, ih, if_neg (by omega), if_pos (by omega), Fi.zero_add, show τ - t = m by omega]
  ·rw [if_neg e, ih]
   by_cases h2 : t <= τ /\ τ - t < m
   ·rw [if_pos h2, if_pos (by omega)]
   ·rw [if_neg h2, if_neg (by omega)]
theorem ke_accU (h : FOk c.F) {us : List (List Int)} {t i : Int} (hu : ∀ s a : Int, 0 <= s -> 0 <= a -> ix 0 (ix [] us s) a = if s = t /\ a = i then 1 else 0) {b : Int} {g : List Int} {a τ : Int} (a0 : 0 <= a) : ∀ N : Nat, (N : Int) <= τ + 1 ->
  ke h (accF c.F b g (back us a τ) N) = ke h b + if a = i /\ t <= τ /\ τ - t < N then ke h (ix 0 g (τ - t)) else 0
 | 0, _ => by
  show ke h b = _
  by_cases e : a = i /\ t <= τ /\ τ - t < ((0 : Nat) : Int)
  ·omega
  ·rw [if_neg e, Fi.add_zero]
 | N + 1, hN => by
  have ih := ke_accU h hu (b := b) (g := g) (τ := τ) a0 N (by omega)
  have e0 : accF c.F b g (back us a τ) (N + 1) = addF c.F (accF c.F b g (back us a τ) N) (mulF c.F (ix 0 g N) (ix 0 (back us a τ) N)) := rfl
  have hv := hu (τ - (N : Int)) a (by omega) a0
  rw [e0, ke_add, ke_mul, ix_back us (i := a) (t := τ) (d := (N : Int)) (by omega) (by omega)]
  by_cases e : a = i
  ·by_cases e2 : τ - (N : Int) = t
   ·rw [if_pos ⟨e2, e⟩] at hv
    rw [hv, ih, ke_one, Fi.mul_one, if_neg (by omega), if_pos ⟨e, by omega, by omega⟩, Fi.add_zero, show τ - t = N by omega]
   ·rw [if_neg (fun hh => e2 hh.1)] at hv
    rw [hv, ih, ke_zero, Fi.mul_zero, Fi.add_zero]
    by_cases e3 : a = i /\ t <= τ /\ τ - t < (N : Int)
    ·rw [if_pos e3, if_pos ⟨e, by omega, by omega⟩]
    ·rw [if_neg e3, if_neg (fun hh => e3 ⟨e, by omega, by omega⟩)]
  ·rw [if_neg (fun hh => e hh.2)] at hv
   rw [hv, ih, ke_zero, Fi.mul_zero, Fi.add_zero, if_neg (fun hh => e hh.1), if_neg (fun hh => e hh.1)]
theorem ke_refU (h : FOk c.F) {us : List (List Int)} {t i : Int} (t0 : 0 <= t) (hu : ∀ s a : Int, 0 <= s -> 0 <= a -> ix 0 (ix [] us s) a = if s = t /\ a = i then 1 else 0) {τ j : Int} (τ0 : 0 <= τ) : ∀ m : Nat,
  ke h (c.refTo us τ j m) = if 0 <= i /\ i < m /\ t <= τ then ke h (c.co i j (τ - t)) else 0
 | 0 => by
  rw [if_neg (by omega)]; exact ke_zero h
 | m + 1 => by
  have ih := ke_refU h t0 hu (j := j) τ0 m
  have e0 := c.refTo_succ us τ j (i := (m : Int)) (by omega)
  rw [show ((m : Int) + 1).toNat = m + 1 by omega, show ((m : Int)).toNat = m by omega] at e0
  rw [e0, ke_accU h hu (by omega) _ (by omega), ih]
  by_cases e : (m : Int) = i
  ·by_cases e2 : t <= τ
   ·rw [if_neg (by omega), Fi.zero_add, if_pos (show 0 <= i /\ i < ((m + 1 : Nat) : Int) /\ t <= τ by omega)]
    by_cases e3 : τ - t < ((min (τ + 1) ((ix [] (ix [] c.Gen (m : Int)) j).length : Int)).toNat : Int)
    ·rw [if_pos ⟨e, e2, e3⟩, <- e]; rfl
    ·rw [if_neg (fun hh => e3 hh.2.2), co_len (by rw [<- e]; omega), ke_zero]
   ·rw [if_neg (by omega), if_neg (by omega), if_neg (by omega), Fi.add_zero]
  ·rw [if_neg (c := (m : Int) = i /\ _) (fun hh => e hh.1), Fi.add_zero]
   by_cases e3 : 0 <= i /\ i < (m : Int) /\ t <= τ
   ·rw [if_pos e3, if_pos (by omega)]
   ·rw [if_neg e3, if_neg (by omega)]
theorem flt_unit (hOk : c.Ok) {steps t i len : Int} (hlen : len = steps + c.mem) (t0 : 0 <= t) (t1 : t < steps) (i0 : 0 <= i) (i1 : i < c.k) :
  fltTo (c.refL (c.term (c.unitU steps t i))) (c.refL (c.term (c.unitU steps t i))).length = c.blkR len t i (c.deg i + 1) 0 := by
 have hk := hOk.kn
 have hS := hOk.fld.1
 have hmn := c.maxD_nonneg c.Gen.length
 have hm0 : 0 <= c.mem := hmn
 have hdm := deg_le_mem (c := c) i0 (show i < c.Gen.length from i1)
 have hdn := c.deg_nonneg i
 have hL : ((c.refL (c.term (c.unitU steps t i))).length : Int) = len := by
  unfold refL; rw [A_o]; unfold term; rw [length_termTo, length_unitU]; omega
 have hrow : ∀ z : Int, 0 <= z -> z < ((c.refL (c.term (c.unitU steps t i))).length : Int) -> ((ix [] (c.refL (c.term (c.unitU steps t i))) z).length : Int) = c.n := fun z z0 z1 => by
  have z2 : z < ((c.term (c.unitU steps t i)).length : Int) := by unfold refL at z1; rw [A_o] at z1; omega
  unfold refL
  rw [ix_mapR [] _ z0 z2]
  unfold refR
  rw [A_o]; omega
 have hfl := fltTo_len (X := c.refL (c.term (c.unitU steps t i))) (n := c.n) (by omega) hrow
 refine ext_ix 0 (by have := length_blkR (c := c) len t i (c.deg i + 1) 0; rw [hL] at hfl; omega) fun p p0 p1 => ?_
 rw [hfl, hL] at p1
 rw [ix_fltTo (n := c.n) (by omega) hrow p0 (by rw [hL]; exact p1)]
 have hs := pl_split (len := len) (show 1 <= c.n by omega) p0 p1
 have z2 : p / c.n < ((c.term (c.unitU steps t i)).length : Int) := by unfold term; rw [length_termTo, length_unitU]; omega
 unfold refL blkR
 rw [ix_mapR [] _ hs.1 z2, ix_mapR 0 _ p0 p1, if_neg (by omega)]
 unfold refR
 rw [ix_mapR 0 _ hs.2.2.1 hs.2.2.2.1]
 have r1 := refTo_lt hS (c := c) (c.term (c.unitU steps t i)) (p / c.n) (p % c.n) c.Gen.length
 have r2 := c.blkE_lt hS len t i (p / c.n) (p % c.n) (c.deg i + 1).toNat
 refine ke_inj hOk.fld r1.1 r1.2 r2.1 r2.2 ?_
 rw [ke_refU hOk.fld t0 (fun s a s0 a0 => ix_term_unit t0 t1 i0 i1 s0 a0) hs.1, ke_blkE hOk.fld t0 hs.2.1 _ (by omega)]
 have i2 : i < (c.Gen.length : Int) := i1
 by_cases e : t <= p / c.n
 ·rw [if_pos ⟨i0, i2, e⟩]
  by_cases e2 : p / c.n - t < ((c.deg i + 1).toNat : Int)
  ·rw [if_pos ⟨e, e2⟩]
  ·rw [if_neg (fun hh => e2 hh.2), co_deg hOk i0 i2 hs.2.2.1 hs.2.2.2.1 (by omega), ke_zero]
 ·rw [if_neg (fun hh => e hh.2.2), if_neg (fun hh => e hh.1)]
end
end Cnv
end Go.Cw
set_option linter.unusedVariables false
set_option linter.unusedSimpArgs false
set_option linter.unusedSectionVars false
namespace Go.Cw
section
variable {f : Fld} (h : FOk f) {N : Int} {X : List (List Int)} (hX : good f N.toNat X)
include h hX
end
section
variable {c : Cod} (hk : COk c)
include hk
end
namespace Cnv
variable {c : Cnv}
noncomputable def tC (c : Cnv) (steps len : Int) : Cod := ⟨c.F, c.n * len, canR (elim c.F (c.blkL steps len) [] (c.n * len).toNat)⟩
noncomputable def tE (c : Cnv) (steps len : Int) : Int := if c.err ≠ 0 then c.err else if steps < 1 then 6 else if 64 < steps \/ 64 < c.n * len then 4 else 0
noncomputable def tR (c : Cnv) (steps len : Int) : Cod := if c.tE steps len = 0 then c.tC steps len else Cod.no
theorem tE_err {steps len : Int} (h : c.err ≠ 0) : c.tE steps len = c.err := if_pos h
theorem tE_rng {steps len : Int} (h : c.err = 0) (h1 : steps < 1) : c.tE steps len = 6 := by unfold tE; rw [if_neg (by simp [h]), if_pos h1]
theorem tE_len {steps len : Int} (h : c.err = 0) (h1 : ¬ steps < 1) (h2 : 64 < steps \/ 64 < c.n * len) : c.tE steps len = 4 := by unfold tE; rw [if_neg (by simp [h]), if_neg h1, if_pos h2]
theorem tE_ok {steps len : Int} (h : c.err = 0) (h1 : ¬ steps < 1) (h2 : ¬ (64 < steps \/ 64 < c.n * len)) : c.tE steps len = 0 := by unfold tE; rw [if_neg (by simp [h]), if_neg h1, if_neg h2]
theorem tE_zero {steps len : Int} (h : c.tE steps len = 0) : c.Ok /\ 1 <= steps /\ steps <= 64 /\ c.n * len <= 64 := by
 have h0 : c.err = 0 := Classical.byContradiction fun hn => by rw [tE_err hn] at h; exact hn h
 have h1 : ¬ steps < 1 := fun hn => by rw [tE_rng h0 hn] at h; cases h
 have h2 : ¬ (64 < steps \/ 64 < c.n * len) := fun hn => by rw [tE_len h0 h1 hn] at h; cases h
 exact ⟨err_zero.1 h0, by omega, by omega, by omega⟩
def tB (c : Cnv) (steps len : Int) : Int := if steps < 1 then 6 else if 64 < steps \/ 64 < c.n * len then 4 else 0
theorem tE_tB {steps len : Int} (h : c.err = 0) : c.tE steps len = c.tB steps len := if_neg (by simp [h])
theorem tR_ok {steps len : Int} (h : c.tE steps len = 0) : c.tR steps len = c.tC steps len := if_pos h
theorem tR_no {steps len : Int} (h : c.tE steps len ≠ 0) : c.tR steps len = Cod.no := if_neg h
theorem blk_mat (hOk : c.Ok) {steps len : Int} (s0 : 0 <= steps) (s1 : steps <= len) (hl : c.n * len <= 64) : mErr c.F ⟨c.n * len, c.blkL steps len⟩ = 0 := by
 have hk := hOk.kn
 have h0 := Int.mul_nonneg (show 0 <= c.n by omega) (show 0 <= len by omega)
 have h1 : steps * c.k <= len * c.n := Int.mul_le_mul s1 (by omega) (by omega) (by omega)
 rw [Int.mul_comm len] at h1
 exact mErr_zero.2 ⟨hOk.fld, good_mat h0 (by show c.n * len <= 256; omega) (by show (c.blkL steps len).length <= 256; unfold blkL; rw [A_o]; omega) (blkL_good hOk.fld.1 _ _)⟩
end Cnv
end Go.Cw
