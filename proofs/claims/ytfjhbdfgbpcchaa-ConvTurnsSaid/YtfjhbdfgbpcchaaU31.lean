/-
  Walks of functions of the program and the reference.
-/
import Derived.Test.YtfjhbdfgbpcchaaU30
open Go Go.Cw
namespace Go.Proofs.Ytfjhbdfgbpcchaa
open Try
set_option maxRecDepth 100000
set_option linter.unusedVariables false
set_option linter.unusedSimpArgs false
theorem block_ok (c : Cnv) (steps len : Int) (hFew : c.Few) (hOk : c.Ok) (s1 : 1 <= steps) (sl : steps <= len) (hl : c.n * len <= 64) : Ctr Try.prog 85 [aMach c, aFld c.F, aInt steps, aInt len] (aTup [aCod (c.tC steps len), aInt 0]) := by
 have hF := hOk.fld
 have hS := hF.1
 have hq := hS.bd
 have hik : c.k = (c.Gen.length : Int) := rfl
 have hen : c.n = ((ix [] c.Gen 0).length : Int) := rfl
 have hkn := hOk.kn
 have hnl := hOk.len
 have hn1 : 1 <= c.n := by omega
 have hl1 : 1 <= len := by omega
 have hnn := Int.mul_nonneg (show 0 <= c.n by omega) (show 0 <= len by omega)
 have hnl1 : 1 * 1 <= c.n * len := Int.mul_le_mul (by omega) (by omega) (by omega) (by omega)
 have hle64 : 1 * len <= c.n * len := Int.mul_le_mul_of_nonneg_right (by omega) (by omega)
 have hmat := Cnv.blk_mat hOk (steps := steps) (len := len) (by omega) sl hl
 have hsk : steps * c.k <= len * c.n := Int.mul_le_mul sl (by omega) (by omega) (by omega)
 rw [Int.mul_comm len] at hsk
 have lds : c.degs.length = c.k.toNat := A_m _ _
 have lcn : c.canon.length = c.Gen.length := by unfold Cnv.canon; simp
 refine ctr_of Try.call85 func85 rfl rfl ?_
 intro w O
 refine ent_lenP 0 1 rfl rfl (fun hlen0_1 => ?_)
 refine ent_lenP 0 4 rfl rfl (fun hlen0_4 => ?_)
 refine ent_lenP 0 8 rfl rfl (fun hlen0_8 => ?_)
 refine A_f 1 2 rfl rfl (fun hlen1_2 => ?_)
 refine esr rfl fun _ K1 => ?_
 refine A_o rfl rfl (AllOne.mem ⟨(A_M _), (A_M _), A_i, trivial⟩) (fun b5_1 => ?_)
 refine ent_alloc (z := .agg #[.int .i64 0, .int .i64 0, .slice none 0 0, .int .i64 0, .slice none 0 0]) [aInt 0, aInt 0, aEx (.slice none 0 0), aInt 0, aEx (.slice none 0 0)] rfl zv69 rfl zc69 (fun b8_2 => ?_)
 refine emm rfl ?_
 refine enk K1 ?_
 refine esk rfl ?_
 refine A_C fun _ K3 => ?_
 refine esk rfl ?_
 refine A_H ?_
 refine ent_open 22 1 false aInts (fun _ => rfl) ?_
 refine A_a (fun (ss : Int × Option Nat × Nat) => match ss with | (t, rr4, cc4) => (⟨[(0, aMach c), (3, aInt len), (5, aEx (.pointer (some ⟨b5_1, 0, none⟩))), (8, aEx (.pointer (some ⟨b8_2, 0, none⟩))), (10, aEx (vec rr4 ((mapR (fun z => c.blkR len (z / c.k) (z % c.k) (c.deg (z % c.k) + 1) 0) (t * c.k)).length) cc4)), (17, aInt steps), (18, aInt t)], [oVec rr4 cc4 22 1 false aInts (mapR (fun z => c.blkR len (z / c.k) (z % c.k) (c.deg (z % c.k) + 1) 0) (t * c.k)), oBox b8_2 69 [aInt 0, aInt 0, aEx (.slice none 0 0), aInt 0, aEx (.slice none 0 0)], oBox b5_1 24 [aInt c.F.P, aInt c.F.M, aSl 1 false aInt c.F.mod]]⟩ : St)) (fun (ss : Int × Option Nat × Nat) => match ss with | (t, rr4, cc4) => (0 <= t) /\ (t <= steps)) (fun (ss : Int × Option Nat × Nat) => match ss with | (t, rr4, cc4) => (steps - t).toNat) (0, none, 0) ⟨(by first | rfl | assumption | omega | (simp_all; done) | grind), (by first | rfl | assumption | omega | (simp_all; done) | grind)⟩ (A_G ⟨rfl, rfl, rfl, rfl, A_P ((show aEx (vec none ([] : List _).length 0) = aEx (vec none ((mapR (fun z => c.blkR len (z / c.k) (z % c.k) (c.deg (z % c.k) + 1) 0) ((0 : Int) * c.k)).length) 0) from av_vec (congrArg List.length (show mapR (fun z => c.blkR len (z / c.k) (z % c.k) (c.deg (z % c.k) + 1) 0) ((0 : Int) * c.k) = [] by first | rfl | (rw [Int.zero_mul]; rfl)).symm))), rfl, A_P (A_c (show 0 = (0 : Int) by first | rfl | assumption | omega | (simp_all; done) | grind)), trivial⟩ (A_J (A_g (show mapR (fun z => c.blkR len (z / c.k) (z % c.k) (c.deg (z % c.k) + 1) 0) ((0 : Int) * c.k) = [] by first | rfl | (rw [Int.zero_mul]; rfl))) (rfl))) ?_
 rintro ⟨t, rr4, cc4⟩ ⟨t0, t1⟩
 show Ent _ ⟨_, [_, _, _]⟩ _
 have lmt := A_m (fun z => c.blkR len (z / c.k) (z % c.k) (c.deg (z % c.k) + 1) 0) (t * c.k)
 have htk := Int.mul_nonneg t0 (show 0 <= c.k by omega)
 have htk2 := Int.mul_le_mul_of_nonneg_right t1 (show 0 <= c.k by omega)
 refine esr rfl fun _ K5 => ?_
 refine A_A rfl (A_p rfl rfl) ?_
 refine enk K5 ?_
 refine A_C fun _ K6 => ?_
 refine A_F rfl (fun h19 => ?_) (fun h19 => ?_)
 ·refine esp K6 ?_
  refine A_C fun _ K7 => ?_
  refine A_H ?_
  refine esk rfl ?_
  refine esr rfl fun _ K9 => ?_
  refine A_A rfl (A_r rfl) ?_
  refine A_A rfl (A_k runUnderlying84 rfl sizeOf3 rfl rfl) ?_
  refine A_A rfl (A_Q ti3 rfl) ?_
  refine emm rfl ?_
  refine enk K9 ?_
  refine A_H ?_
  refine A_a (fun (ss : Int × Option Nat × Nat) => match ss with | (i, rr5, cc5) => (⟨[(0, aMach c), (3, aInt len), (5, aEx (.pointer (some ⟨b5_1, 0, none⟩))), (8, aEx (.pointer (some ⟨b8_2, 0, none⟩))), (10, aEx (vec rr5 ((mapR (fun z => c.blkR len (z / c.k) (z % c.k) (c.deg (z % c.k) + 1) 0) (t * c.k + i)).length) cc5)), (11, aInt t), (17, aInt steps), (18, aInt t), (24, aInt c.k), (25, aInt i)], [oVec rr5 cc5 22 1 false aInts (mapR (fun z => c.blkR len (z / c.k) (z % c.k) (c.deg (z % c.k) + 1) 0) (t * c.k + i)), oBox b8_2 69 [aInt 0, aInt 0, aEx (.slice none 0 0), aInt 0, aEx (.slice none 0 0)], oBox b5_1 24 [aInt c.F.P, aInt c.F.M, aSl 1 false aInt c.F.mod]]⟩ : St)) (fun (ss : Int × Option Nat × Nat) => match ss with | (i, rr5, cc5) => (0 <= i) /\ (i <= c.k)) (fun (ss : Int × Option Nat × Nat) => match ss with | (i, rr5, cc5) => (c.k - i).toNat) (0, rr4, cc4) ⟨(by first | rfl | assumption | omega | (simp_all; done) | grind), (by first | rfl | assumption | omega | (simp_all; done) | grind)⟩ (A_G ⟨rfl, rfl, rfl, rfl, A_P (av_vec (congrArg List.length (show mapR (fun z => c.blkR len (z / c.k) (z % c.k) (c.deg (z % c.k) + 1) 0) (t * c.k + (0 : Int)) = mapR (fun z => c.blkR len (z / c.k) (z % c.k) (c.deg (z % c.k) + 1) 0) (t * c.k) by first | rfl | (rw [Int.add_zero])).symm)), rfl, rfl, rfl, rfl, A_P (A_c (show 0 = (0 : Int) by first | rfl | assumption | omega | (simp_all; done) | grind)), trivial⟩ (A_J (A_g (show mapR (fun z => c.blkR len (z / c.k) (z % c.k) (c.deg (z % c.k) + 1) 0) (t * c.k + (0 : Int)) = mapR (fun z => c.blkR len (z / c.k) (z % c.k) (c.deg (z % c.k) + 1) 0) (t * c.k) by first | rfl | (rw [Int.add_zero]))) (rfl))) ?_
  rintro ⟨i, rr5, cc5⟩ ⟨i0, i1⟩
  show Ent _ ⟨_, [_, _, _]⟩ _
  have lmi := A_m (fun z => c.blkR len (z / c.k) (z % c.k) (c.deg (z % c.k) + 1) 0) (t * c.k + i)
  refine esr rfl fun _ K10 => ?_
  refine A_A rfl (A_p rfl rfl) ?_
  refine enk K10 ?_
  refine A_C fun _ K11 => ?_
  refine A_F rfl (fun h26 => ?_) (fun h26 => ?_)
  ·have hdg := c.ix_degs i0 (show i < c.Gen.length by omega)
   have hdeg40 := hFew.deg_le i i0 h26
   have hrow := hOk.row i0 (show i < c.Gen.length by omega)
   have lcr : (ix [] c.canon i).length = (ix [] c.Gen i).length := by rw [c.ix_canon i0 (by omega)]; simp
   refine esp K11 ?_
   refine A_C fun _ K12 => ?_
   refine A_H ?_
   refine esk rfl ?_
   refine esr rfl fun _ K14 => ?_
   refine A_A rfl (A_r rfl) ?_
   refine A_A rfl (A_k runUnderlying84 rfl sizeOf3 rfl rfl) ?_
   refine A_A rfl (A_Q ti3 rfl) ?_
   refine emm rfl ?_
   refine A_A rfl (ok_mul rfl rfl (by omega) (by omega)) ?_
   refine ent_make aInt 0 rfl vt22 rfl rfl (by omega) (by omega) (by omega) (fun _ _ => rfl) (AllV.mem ⟨rfl, trivial⟩) (fun b34_6 => ?_)
   refine emm rfl ?_
   refine enk K14 ?_
   refine A_C fun _ K15 => ?_
   refine esk rfl ?_
   refine A_H ?_
   refine A_a (fun (d : Int) => (⟨[(0, aMach c), (3, aInt len), (5, aEx (.pointer (some ⟨b5_1, 0, none⟩))), (8, aEx (.pointer (some ⟨b8_2, 0, none⟩))), (10, aEx (vec rr5 ((mapR (fun z => c.blkR len (z / c.k) (z % c.k) (c.deg (z % c.k) + 1) 0) (t * c.k + i)).length) cc5)), (11, aInt t), (12, aInt i), (13, aEx (vec (some b34_6) ((c.n * len).toNat) ((c.n * len).toNat))), (14, aInt d), (17, aInt steps), (18, aInt t), (24, aInt c.k), (25, aInt i)], [oVec (some b34_6) ((c.n * len).toNat) 3 1 false aInt (c.blkR len t i d 0), oVec rr5 cc5 22 1 false aInts (mapR (fun z => c.blkR len (z / c.k) (z % c.k) (c.deg (z % c.k) + 1) 0) (t * c.k + i)), oBox b8_2 69 [aInt 0, aInt 0, aEx (.slice none 0 0), aInt 0, aEx (.slice none 0 0)], oBox b5_1 24 [aInt c.F.P, aInt c.F.M, aSl 1 false aInt c.F.mod]]⟩ : St)) (fun (d : Int) => (0 <= d) /\ (d <= c.deg i + 1)) (fun (d : Int) => (c.deg i + 1 - d).toNat) 0 ⟨(by first | rfl | assumption | omega | (simp_all; done) | grind), (by have := c.deg_nonneg i; omega)⟩ (A_G ⟨rfl, rfl, rfl, rfl, rfl, rfl, rfl, rfl, A_P (A_c (show 0 = (0 : Int) by first | rfl | assumption | omega | (simp_all; done) | grind)), rfl, rfl, rfl, rfl, trivial⟩ (A_J (A_g (show c.blkR len t i (0 : Int) 0 = List.replicate ((c.n * len).toNat) 0 by first | exact Cnv.blkR_zero (c := c) hn1 len t i | exact (Cnv.blkR_zero (c := c) hn1 len t i).symm)) (rfl))) ?_
   rintro d ⟨d0, d1⟩
   show Ent _ ⟨_, [_, _, _, _]⟩ _
   have lbd := Cnv.length_blkR (c := c) len t i d 0
   refine A_C fun _ K17 => ?_
   refine esr rfl fun _ K18 => ?_
   refine A_A rfl (A_r rfl) ?_
   refine A_A rfl (A_k runUnderlying84 rfl sizeOf22 rfl rfl) ?_
   refine A_A rfl (A_Q ti22 rfl) ?_
   refine emm rfl ?_
   refine A_A rfl (A_X 0 sl22 rfl rfl (by omega) (by omega)) ?_
   refine A_A rfl (A_Q ti3 rfl) ?_
   refine A_A rfl (ok_leq rfl rfl) ?_
   refine enk K18 ?_
   refine A_F rfl (fun h43 => ?_) (fun h43 => ?_)
   ·have hτ0 := Int.emod_nonneg (t + d) (show len ≠ 0 by omega)
    have hτ1 := Int.emod_lt_of_pos (t + d) (show 0 < len by omega)
    have hp0 := pl_rng (n := c.n) (len := len) hτ0 hτ1 (Int.le_refl 0) (by omega)
    refine esp K17 ?_
    refine A_C fun _ K19 => ?_
    refine A_H ?_
    refine A_C fun _ K20 => ?_
    refine A_u 11 mixed (by kernel_rfl) (by kernel_rfl) (by kernel_rfl) ?_
    refine dw_o rfl (A_K rfl) ?_
    refine dw_o rfl (A_K rfl) ?_
    refine dw_o rfl (A_j rfl rfl (by omega) (by omega)) ?_
    refine dw_o rfl (A_K rfl) ?_
    refine dw_o rfl (ok_rem rfl rfl (by omega) (by omega)) ?_
    refine dw_o rfl (A_K rfl) ?_
    refine dw_o rfl (A_r rfl) ?_
    refine dw_o rfl (A_k runUnderlying84 rfl sizeOf3 rfl rfl) ?_
    refine dw_o rfl (A_Q ti3 rfl) ?_
    refine dw_o rfl (ok_mul rfl rfl (by omega) (by omega)) ?_
    refine dw_o rfl (ok_assign rfl) ?_
    refine dw_nil ?_
    refine enk K20 ?_
    refine esr rfl fun _ K21 => ?_
    refine A_A rfl (A_r rfl) ?_
    refine A_A rfl (A_k runUnderlying84 rfl sizeOf3 rfl rfl) ?_
    refine A_A rfl (A_Q ti3 rfl) ?_
    refine emm rfl ?_
    refine enk K21 ?_
    refine A_H ?_
    refine A_a (fun (j : Int) => (⟨[(0, aMach c), (3, aInt len), (5, aEx (.pointer (some ⟨b5_1, 0, none⟩))), (8, aEx (.pointer (some ⟨b8_2, 0, none⟩))), (10, aEx (vec rr5 ((mapR (fun z => c.blkR len (z / c.k) (z % c.k) (c.deg (z % c.k) + 1) 0) (t * c.k + i)).length) cc5)), (11, aInt t), (12, aInt i), (13, aEx (vec (some b34_6) ((c.n * len).toNat) ((c.n * len).toNat))), (14, aInt d), (15, aInt (((t + d) % len) * c.n)), (17, aInt steps), (18, aInt t), (24, aInt c.k), (25, aInt i), (59, aInt c.n), (60, aInt j)], [oVec (some b34_6) ((c.n * len).toNat) 3 1 false aInt (c.blkR len t i d j), oVec rr5 cc5 22 1 false aInts (mapR (fun z => c.blkR len (z / c.k) (z % c.k) (c.deg (z % c.k) + 1) 0) (t * c.k + i)), oBox b8_2 69 [aInt 0, aInt 0, aEx (.slice none 0 0), aInt 0, aEx (.slice none 0 0)], oBox b5_1 24 [aInt c.F.P, aInt c.F.M, aSl 1 false aInt c.F.mod]]⟩ : St)) (fun (j : Int) => (0 <= j) /\ (j <= c.n)) (fun (j : Int) => (c.n - j).toNat) 0 ⟨(by first | rfl | assumption | omega | (simp_all; done) | grind), (by first | rfl | assumption | omega | (simp_all; done) | grind)⟩ (A_G ⟨rfl, rfl, rfl, rfl, rfl, rfl, rfl, rfl, rfl, rfl, rfl, rfl, rfl, rfl, rfl, A_P (A_c (show 0 = (0 : Int) by first | rfl | assumption | omega | (simp_all; done) | grind)), trivial⟩ (A_J (A_g (show c.blkR len t i d (0 : Int) = c.blkR len t i d 0 by rfl)) (rfl))) ?_
    rintro j ⟨j0, j1⟩
    show Ent _ ⟨_, [_, _, _, _]⟩ _
    have lbj := Cnv.length_blkR (c := c) len t i d j
    refine esr rfl fun _ K22 => ?_
    refine A_A rfl (A_p rfl rfl) ?_
    refine enk K22 ?_
    refine A_C fun _ K23 => ?_
    refine A_F rfl (fun h61 => ?_) (fun h61 => ?_)
    ·have hpj := pl_rng (n := c.n) (len := len) hτ0 hτ1 j0 h61
     have hce : ix 0 (ix [] (ix [] c.canon i) j) d = c.co i j d := c.coef_eq i0 (show i < c.Gen.length by omega) j0 (show j < (ix [] c.Gen i).length by omega) d
     refine esp K23 ?_
     refine A_C fun _ K24 => ?_
     refine A_H ?_
     refine esk rfl ?_
     refine A_u 28 mixed (by kernel_rfl) (drawQ_F (by kernel_rfl)) (by kernel_rfl) ?_
     refine dw_o rfl (A_K rfl) ?_
     refine dw_o rfl (A_K rfl) ?_
     refine dw_o rfl (A_K rfl) ?_
     refine dw_o rfl (A_j rfl rfl (by omega) (by omega)) ?_
     refine dw_o rfl (A_K rfl) ?_
     refine dw_o rfl (A_r rfl) ?_
     refine dw_o rfl (A_k runUnderlying84 rfl sizeOf82 rfl rfl) ?_
     refine dw_o rfl (A_Q ti82 rfl) ?_
     refine dw_o rfl (A_K rfl) ?_
     refine dw_o rfl (A_K rfl) ?_
     refine dw_o rfl (A_K rfl) ?_
     refine dw_o rfl (A_j rfl rfl (by omega) (by omega)) ?_
     refine dw_o rfl (A_n sl22 rfl rfl (by omega) (by omega)) ?_
     refine dw_o rfl (ok_loadV (k := 0) 0 ti3 rfl rfl (by omega) (by omega)) ?_
     refine dw_o rfl (A_K rfl) ?_
     refine dw_o rfl (A_r rfl) ?_
     refine dw_o rfl (A_k runUnderlying84 rfl sizeOf25 rfl rfl) ?_
     refine dw_o rfl (A_Q ti25 rfl) ?_
     refine dw_o rfl (A_K rfl) ?_
     refine dw_o rfl (A_X [] sl25 rfl rfl (by omega) (by omega)) ?_
     refine dw_o rfl (A_Q ti42 rfl) ?_
     refine dw_o rfl (A_K rfl) ?_
     refine dw_o rfl (A_X [] sl42 rfl rfl (by omega) (by omega)) ?_
     refine dw_o rfl (A_Q ti22 rfl) ?_
     refine dw_o rfl (A_K rfl) ?_
     refine dw_o rfl (A_Y (coefficient_ok (ix [] (ix [] c.canon i) j) d d0) rfl) ?_
     refine dw_o rfl (A_Y (Add_ok c.F (ix 0 (c.blkR len t i d j) ((((t + d) % len) * c.n) + j)) (ix 0 (ix [] (ix [] c.canon i) j) d) (by first | rfl | assumption | omega | (simp_all; done) | grind)) rfl) ?_
     refine dw_o rfl (A_n sl22 rfl rfl (by omega) (by omega)) ?_
     refine dw_nil ?_
     refine ent_storeV (k := 0) (z := addF c.F (ix 0 (c.blkR len t i d j) ((((t + d) % len) * c.n) + j)) (ix 0 (ix [] (ix [] c.canon i) j) d)) ti3 rfl rfl rfl (A_w (A_M _)) (by omega) (by omega) ?_
     refine enk K24 ?_
     refine A_E ?_
     refine A_A rfl (A_j rfl rfl (by omega) (by omega)) ?_
     refine emm rfl ?_
     refine A_O ?_
     refine A_T (s := (j)) (j + 1) ⟨(by first | rfl | assumption | omega | (simp_all; done) | grind), (by first | rfl | assumption | omega | (simp_all; done) | grind)⟩ (by first | omega | (dsimp only; omega)) (A_G ⟨rfl, rfl, rfl, rfl, rfl, rfl, rfl, rfl, rfl, rfl, rfl, rfl, rfl, rfl, rfl, rfl, trivial⟩ (A_J (A_g (show c.blkR len t i d (j + 1) = List.set (c.blkR len t i d j) ((((t + d) % len) * c.n) + j).toNat (addF c.F (ix 0 (c.blkR len t i d j) ((((t + d) % len) * c.n) + j)) (ix 0 (ix [] (ix [] c.canon i) j) d)) by rw [hce]; exact (Cnv.blkR_set (c := c) (t := t) (i := i) (len := len) rfl hl1 d0 j0 h61).symm)) (rfl)))
    refine A_b ?_
    refine A_s K19 ?_
    refine A_E ?_
    refine emm rfl ?_
    refine A_A rfl (A_j rfl rfl (by omega) (by omega)) ?_
    refine emm rfl ?_
    refine A_O ?_
    refine A_T (s := (d)) (d + 1) ⟨(by first | rfl | assumption | omega | (simp_all; done) | grind), (by first | rfl | assumption | omega | (simp_all; done) | grind)⟩ (by first | omega | (dsimp only; omega)) (A_G ⟨rfl, rfl, rfl, rfl, rfl, rfl, rfl, rfl, rfl, rfl, rfl, rfl, rfl, trivial⟩ (A_J (A_g (show c.blkR len t i (d + 1) 0 = c.blkR len t i d j by first | exact Cnv.blkR_next (c := c) hn1 len t i (by omega) | exact (Cnv.blkR_next (c := c) hn1 len t i (by omega)).symm)) (rfl)))
   refine A_b ?_
   refine A_s K15 ?_
   refine ent_give 0 13 rfl (cv_vec (k := 0) (off_erase rfl) (by first | rfl | assumption | (simp; done) | (simp_all; done) | omega) rfl) ?_
   refine A_E ?_
   refine emm rfl ?_
   refine ent_appendL (k := 0) (enc := aInts) (y := c.blkR len t i d 0) rfl rfl vt42 rfl rfl (by first | rfl | assumption | (simp; done) | (simp_all; done) | omega) rfl ((A_w A_i)) (by first | omega | (simp only [List.length_append, List.length_cons, List.length_nil]; omega) | (simp; omega) | (simp; done)) (by first | omega | (simp only [List.length_append, List.length_cons, List.length_nil]; omega) | (simp; omega) | (simp; done)) (by decide) (fun b95_7 c95_7 => ?_)
   refine emm rfl ?_
   refine enk K12 ?_
   refine A_E ?_
   refine A_A rfl (A_j rfl rfl (by omega) (by omega)) ?_
   refine emm rfl ?_
   refine A_O ?_
   refine A_T (s := (i, rr5, cc5)) (i + 1, (some b95_7), c95_7) ⟨(by first | rfl | assumption | omega | (simp_all; done) | grind), (by first | rfl | assumption | omega | (simp_all; done) | grind)⟩ (by first | omega | (dsimp only; omega)) (A_G ⟨rfl, rfl, rfl, rfl, A_P (av_vec (congrArg List.length (show mapR (fun z => c.blkR len (z / c.k) (z % c.k) (c.deg (z % c.k) + 1) 0) (t * c.k + (i + 1)) = (mapR (fun z => c.blkR len (z / c.k) (z % c.k) (c.deg (z % c.k) + 1) 0) (t * c.k + i)) ++ [c.blkR len t i d 0] by rw [show d = c.deg i + 1 by omega]; first | exact Cnv.blkL_step t0 i0 (by omega) | exact (Cnv.blkL_step t0 i0 (by omega)).symm).symm)), rfl, rfl, rfl, rfl, rfl, trivial⟩ (A_J (A_g (show mapR (fun z => c.blkR len (z / c.k) (z % c.k) (c.deg (z % c.k) + 1) 0) (t * c.k + (i + 1)) = (mapR (fun z => c.blkR len (z / c.k) (z % c.k) (c.deg (z % c.k) + 1) 0) (t * c.k + i)) ++ [c.blkR len t i d 0] by rw [show d = c.deg i + 1 by omega]; first | exact Cnv.blkL_step t0 i0 (by omega) | exact (Cnv.blkL_step t0 i0 (by omega)).symm)) (rfl)))
  refine A_b ?_
  refine A_s K7 ?_
  refine A_E ?_
  refine A_A rfl (A_j rfl rfl (by omega) (by omega)) ?_
  refine emm rfl ?_
  refine A_O ?_
  refine A_T (s := (t, rr4, cc4)) (t + 1, rr5, cc5) ⟨(by first | rfl | assumption | omega | (simp_all; done) | grind), (by first | rfl | assumption | omega | (simp_all; done) | grind)⟩ (by first | omega | (dsimp only; omega)) (A_G ⟨rfl, rfl, rfl, rfl, A_P (av_vec (congrArg List.length (show mapR (fun z => c.blkR len (z / c.k) (z % c.k) (c.deg (z % c.k) + 1) 0) ((t + 1) * c.k) = mapR (fun z => c.blkR len (z / c.k) (z % c.k) (c.deg (z % c.k) + 1) 0) (t * c.k + i) by rw [show i = c.k by omega, Int.add_mul, Int.one_mul]).symm)), rfl, rfl, trivial⟩ (A_J (A_g (show mapR (fun z => c.blkR len (z / c.k) (z % c.k) (c.deg (z % c.k) + 1) 0) ((t + 1) * c.k) = mapR (fun z => c.blkR len (z / c.k) (z % c.k) (c.deg (z % c.k) + 1) 0) (t * c.k + i) by rw [show i = c.k by omega, Int.add_mul, Int.one_mul])) (rfl)))
 refine A_b ?_
 refine A_s K3 ?_
 refine A_C fun _ K26 => ?_
 have hbl : mapR (fun z => c.blkR len (z / c.k) (z % c.k) (c.deg (z % c.k) + 1) 0) (t * c.k) = c.blkL steps len := by rw [show t = steps by omega]; rfl
 rw [hbl]
 refine ent_give 0 10 rfl (cv_vec (k := 0) (off_erase rfl) (by first | rfl | assumption | (simp; done) | (simp_all; done) | omega) rfl) ?_
 refine A_u 12 mixed (by kernel_rfl) (by kernel_rfl) (by kernel_rfl) ?_
 refine dw_o rfl (A_V (k := 1) ti24 rfl rfl rfl) ?_
 refine dw_o rfl (A_K rfl) ?_
 refine dw_o rfl (A_r rfl) ?_
 refine dw_o rfl (A_k runUnderlying84 rfl sizeOf3 rfl rfl) ?_
 refine dw_o rfl (A_Q ti3 rfl) ?_
 refine dw_o rfl (A_K rfl) ?_
 refine dw_o rfl (ok_mul rfl rfl (by omega) (by omega)) ?_
 refine dw_o rfl (A_K rfl) ?_
 refine dw_o rfl (ok_build st120 (As := [aInt 0, aEx (.slice none 0 0)]) z120 (⟨0, 1, rfl, .inl ⟨rfl, _, rfl, (A_M _), rfl, ⟨1, 1, rfl, .inl ⟨rfl, _, rfl, A_i, rfl, rfl⟩⟩⟩⟩)) ?_
 refine dw_o rfl (ok_callA (cNew_ok c.F (⟨c.n * len, c.blkL steps len⟩) hmat (by show 1 <= c.n * len; omega) hl) ⟨arg_a rfl (cv_id sub_refl), arg_a rfl (cv_agg ⟨A_Z (by first | rfl | assumption | omega | (simp_all; done) | grind), cv_sl sub_refl (by first | rfl | assumption | omega | (simp_all; done) | grind), trivial⟩), trivial⟩) ?_
 refine dw_o rfl (A_e rfl rfl) ?_
 refine dw_o rfl (A_e rfl rfl) ?_
 refine dw_nil ?_
 refine ent_storeBS (k := 0) sizeOf69 rfl rfl rfl (AllOne.mem ⟨(A_M _), (A_M _), A_i, (A_M _), A_i, trivial⟩) rfl rfl ?_
 show Ent _ ⟨_, [_, _]⟩ _
 refine emm rfl ?_
 refine enk K26 ?_
 refine A_S ?_
 exact retR2 (.inr rfl) results85 (resr_cell (k := 0) ti69 rfl rfl rfl (cv_agg ⟨A_Z (by rfl), A_Z (by rfl), cv_sl sub_x (by rfl), A_Z (by rfl), cv_sl sub_x (by rfl), trivial⟩)) (A_N (A_W rfl (A_Z (by rfl))))
end Go.Proofs.Ytfjhbdfgbpcchaa

