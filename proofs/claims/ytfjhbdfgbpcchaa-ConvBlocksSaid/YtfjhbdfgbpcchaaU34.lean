/-
  Walks of functions of the program and the reference.
-/
import Derived.Test.YtfjhbdfgbpcchaaU33
open Go Go.Cw
namespace Go.Proofs.Ytfjhbdfgbpcchaa
open Try
set_option maxRecDepth 100000
set_option linter.unusedVariables false
set_option linter.unusedSimpArgs false
theorem rTerminated_ok (c : Cnv) (steps : Int) (hFew : c.Few) (hOk : c.Ok) (s1 : 1 <= steps) (hl : c.n * (steps + c.mem) <= 64) : Ctr Try.prog 53 [aCnv c, aInt steps] (aCod (c.tC steps (steps + c.mem))) := by
 have hF := hOk.fld
 have hS := hF.1
 have hq := hS.bd
 have hik : c.k = (c.Gen.length : Int) := rfl
 have hen : c.n = ((ix [] c.Gen 0).length : Int) := rfl
 have hkn := hOk.kn
 have hnl := hOk.len
 have hn1 : 1 <= c.n := by omega
 have hmn : 0 <= c.mem := c.maxD_nonneg c.Gen.length
 have hm4 := hFew.mem_le
 have hmm : ((ix [] c.Gen 0).length : Int) * (steps + c.mem) = c.n * (steps + c.mem) := by rw [<- hen]
 have hl1 : 1 <= (steps + c.mem) := by omega
 have hnl1 : 1 * 1 <= c.n * (steps + c.mem) := Int.mul_le_mul (by omega) (by omega) (by omega) (by omega)
 have hle64 : 1 * (steps + c.mem) <= c.n * (steps + c.mem) := Int.mul_le_mul_of_nonneg_right (by omega) (by omega)
 have hsk : steps * c.k <= c.n * (steps + c.mem) := by rw [Int.mul_comm c.n]; exact Int.mul_le_mul (by omega) (by omega) (by omega) (by omega)
 refine ctr_of Try.call53 func53 rfl rfl ?_
 intro w O
 refine A_l 0 2 rfl rfl (fun hlen0_2 => ?_)
 refine A_l 0 3 rfl rfl (fun hlen0_3 => ?_)
 refine esr rfl fun _ K1 => ?_
 refine A_s rfl rfl (AllOne.mem ⟨(A_M _), (A_M _), A_i, A_i, trivial⟩) (fun b2_1 => ?_)
 refine ent_alloc (z := .agg #[.int .i64 0, .int .i64 0, .slice none 0 0, .int .i64 0, .slice none 0 0]) [aInt 0, aInt 0, aEx (.slice none 0 0), aInt 0, aEx (.slice none 0 0)] rfl zv69 rfl zc69 (fun b4_2 => ?_)
 refine enk K1 ?_
 refine esk rfl ?_
 refine A_E fun _ K3 => ?_
 refine esk rfl ?_
 refine A_H ?_
 refine ent_open 22 1 false aInts (fun _ => rfl) ?_
 refine A_Z (fun (ss : Int × Option Nat × Nat) => match ss with | (t, rr4, cc4) => (⟨[(1, aInt steps), (2, aEx (.pointer (some ⟨b2_1, 0, none⟩))), (4, aEx (.pointer (some ⟨b4_2, 0, none⟩))), (5, aEx (vec rr4 ((mapR (fun z => c.blkR (steps + c.mem) (z / c.k) (z % c.k) (c.deg (z % c.k) + 1) 0) (t * c.k)).length) cc4)), (6, aInt t)], [oVec rr4 cc4 22 1 false aInts (mapR (fun z => c.blkR (steps + c.mem) (z / c.k) (z % c.k) (c.deg (z % c.k) + 1) 0) (t * c.k)), oBox b4_2 69 [aInt 0, aInt 0, aEx (.slice none 0 0), aInt 0, aEx (.slice none 0 0)], oBox b2_1 27 [aInt c.F.P, aInt c.F.M, aSl 1 false aInt c.F.mod, aSl 1 false aRows c.Gen]]⟩ : St)) (fun (ss : Int × Option Nat × Nat) => match ss with | (t, rr4, cc4) => (0 <= t) /\ (t <= steps)) (fun (ss : Int × Option Nat × Nat) => match ss with | (t, rr4, cc4) => (steps - t).toNat) (0, none, 0) ⟨(by first | rfl | assumption | omega | (simp_all; done) | grind), (by first | rfl | assumption | omega | (simp_all; done) | grind)⟩ (A_G ⟨rfl, rfl, rfl, A_P ((show aEx (vec none ([] : List _).length 0) = aEx (vec none ((mapR (fun z => c.blkR (steps + c.mem) (z / c.k) (z % c.k) (c.deg (z % c.k) + 1) 0) ((0 : Int) * c.k)).length) 0) from av_vec (congrArg List.length (show mapR (fun z => c.blkR (steps + c.mem) (z / c.k) (z % c.k) (c.deg (z % c.k) + 1) 0) ((0 : Int) * c.k) = [] by first | rfl | (rw [Int.zero_mul]; rfl)).symm))), A_P (A_d (show 0 = (0 : Int) by first | rfl | assumption | omega | (simp_all; done) | grind)), trivial⟩ (A_J (A_e (show mapR (fun z => c.blkR (steps + c.mem) (z / c.k) (z % c.k) (c.deg (z % c.k) + 1) 0) ((0 : Int) * c.k) = [] by first | rfl | (rw [Int.zero_mul]; rfl))) (rfl))) ?_
 rintro ⟨t, rr4, cc4⟩ ⟨t0, t1⟩
 show Ent _ ⟨_, [_, _, _]⟩ _
 have lmt := A_o (fun z => c.blkR (steps + c.mem) (z / c.k) (z % c.k) (c.deg (z % c.k) + 1) 0) (t * c.k)
 have htk := Int.mul_nonneg t0 (show 0 <= c.k by omega)
 have htk2 := Int.mul_le_mul_of_nonneg_right t1 (show 0 <= c.k by omega)
 refine A_E fun _ K5 => ?_
 refine esr rfl fun _ K6 => ?_
 refine A_A rfl (A_q rfl rfl) ?_
 refine enk K6 ?_
 refine A_I rfl (fun h10 => ?_) (fun h10 => ?_)
 ·refine esp K5 ?_
  refine A_E fun _ K7 => ?_
  refine A_H ?_
  refine esk rfl ?_
  refine A_H ?_
  refine A_Z (fun (ss : Int × Option Nat × Nat) => match ss with | (i, rr5, cc5) => (⟨[(1, aInt steps), (2, aEx (.pointer (some ⟨b2_1, 0, none⟩))), (4, aEx (.pointer (some ⟨b4_2, 0, none⟩))), (5, aEx (vec rr5 ((mapR (fun z => c.blkR (steps + c.mem) (z / c.k) (z % c.k) (c.deg (z % c.k) + 1) 0) (t * c.k + i)).length) cc5)), (6, aInt t), (7, aInt i)], [oVec rr5 cc5 22 1 false aInts (mapR (fun z => c.blkR (steps + c.mem) (z / c.k) (z % c.k) (c.deg (z % c.k) + 1) 0) (t * c.k + i)), oBox b4_2 69 [aInt 0, aInt 0, aEx (.slice none 0 0), aInt 0, aEx (.slice none 0 0)], oBox b2_1 27 [aInt c.F.P, aInt c.F.M, aSl 1 false aInt c.F.mod, aSl 1 false aRows c.Gen]]⟩ : St)) (fun (ss : Int × Option Nat × Nat) => match ss with | (i, rr5, cc5) => (0 <= i) /\ (i <= c.k)) (fun (ss : Int × Option Nat × Nat) => match ss with | (i, rr5, cc5) => (c.k - i).toNat) (0, rr4, cc4) ⟨(by first | rfl | assumption | omega | (simp_all; done) | grind), (by first | rfl | assumption | omega | (simp_all; done) | grind)⟩ (A_G ⟨rfl, rfl, rfl, A_P (av_vec (congrArg List.length (show mapR (fun z => c.blkR (steps + c.mem) (z / c.k) (z % c.k) (c.deg (z % c.k) + 1) 0) (t * c.k + (0 : Int)) = mapR (fun z => c.blkR (steps + c.mem) (z / c.k) (z % c.k) (c.deg (z % c.k) + 1) 0) (t * c.k) by first | rfl | (rw [Int.add_zero])).symm)), rfl, A_P (A_d (show 0 = (0 : Int) by first | rfl | assumption | omega | (simp_all; done) | grind)), trivial⟩ (A_J (A_e (show mapR (fun z => c.blkR (steps + c.mem) (z / c.k) (z % c.k) (c.deg (z % c.k) + 1) 0) (t * c.k + (0 : Int)) = mapR (fun z => c.blkR (steps + c.mem) (z / c.k) (z % c.k) (c.deg (z % c.k) + 1) 0) (t * c.k) by first | rfl | (rw [Int.add_zero]))) (rfl))) ?_
  rintro ⟨i, rr5, cc5⟩ ⟨i0, i1⟩
  show Ent _ ⟨_, [_, _, _]⟩ _
  have lmi := A_o (fun z => c.blkR (steps + c.mem) (z / c.k) (z % c.k) (c.deg (z % c.k) + 1) 0) (t * c.k + i)
  refine A_E fun _ K9 => ?_
  refine esr rfl fun _ K10 => ?_
  refine A_A rfl (A_B runUnderlying27 rfl sizeOf25 (by decide) rfl) ?_
  refine A_A rfl (A_L (k := 2) isAgg25 rfl rfl rfl) ?_
  refine A_A rfl (A_p rfl runUnderlying25 rfl) ?_
  refine A_A rfl (A_q rfl rfl) ?_
  refine enk K10 ?_
  refine A_I rfl (fun h17 => ?_) (fun h17 => ?_)
  ·have lun := Cnv.length_unitU (c := c) steps t i
   have hgu : c.GoodU (c.unitU steps t i) := Cnv.unitU_good hq.2.2.2.2.2.1
   have hgt := Cnv.GoodU.term hq.2.2.2.2.2.1 hgu c.mem
   have ltm : (c.term (c.unitU steps t i)).length = (c.unitU steps t i).length + c.mem.toNat := Cnv.length_termTo _ _
   have hflt := Cnv.flt_unit (c := c) hOk (steps := steps) (t := t) (i := i) (len := (steps + c.mem)) rfl t0 (by omega) i0 (by omega)
   have lrl : (c.refL (c.term (c.unitU steps t i))).length = (c.term (c.unitU steps t i)).length := by unfold Cnv.refL; rw [A_o]; omega
   refine esp K9 ?_
   refine A_E fun _ K11 => ?_
   refine A_H ?_
   refine ent_drawM 11 mixed rfl (by kernel_rfl) (by kernel_rfl) (by kernel_rfl) (by kernel_rfl) (by kernel_rfl) (by kernel_rfl) (by kernel_rfl) (fun _ _ _ _ h => h) ?_
   refine dw_o rfl (A_K rfl) ?_
   refine dw_o rfl (A_V (k := 2) ti27 rfl rfl rfl) ?_
   refine dw_o rfl (A_V (k := 2) ti27 rfl rfl rfl) ?_
   refine dw_o rfl (A_V (k := 2) ti27 rfl rfl rfl) ?_
   refine dw_o rfl (A_K rfl) ?_
   refine dw_o rfl (A_K rfl) ?_
   refine dw_o rfl (A_K rfl) ?_
   refine dw_o rfl (A_b (rUnitU_ok c steps t i (by omega) (by omega) t0 (by omega) i0 (by omega)) rfl) ?_
   refine dw_o rfl (A_b (rTerminate_ok c (c.unitU steps t i) hFew (by omega)) rfl) ?_
   refine dw_o rfl (A_b (rEncode_ok c (c.term (c.unitU steps t i)) hFew hOk hgt (by omega)) rfl) ?_
   refine dw_o rfl (A_b (rFlat_ok (c.refL (c.term (c.unitU steps t i))) c.n (by omega) (by omega) (by omega) (fun z z0 z1 => by unfold Cnv.refL; rw [ix_mapR [] _ z0 (by omega)]; unfold Cnv.refR; rw [A_o]; omega)) rfl) ?_
   refine dw_nil ?_
   refine ent_appendL (k := 0) (enc := aInts) (y := fltTo (c.refL (c.term (c.unitU steps t i))) (c.refL (c.term (c.unitU steps t i))).length) rfl rfl vt42 rfl rfl (by first | rfl | assumption | (simp; done) | (simp_all; done) | omega) rfl ((A_u A_i)) (by first | omega | (simp only [List.length_append, List.length_cons, List.length_nil]; omega) | (simp; omega) | (simp; done)) (by first | omega | (simp only [List.length_append, List.length_cons, List.length_nil]; omega) | (simp; omega) | (simp; done)) (by decide) (fun b32_6 c32_6 => ?_)
   refine emm rfl ?_
   refine enk K11 ?_
   refine A_F ?_
   refine emm rfl ?_
   refine A_A rfl (A_j rfl rfl (by omega) (by omega)) ?_
   refine emm rfl ?_
   refine A_N ?_
   refine A_R (s := (i, rr5, cc5)) (i + 1, (some b32_6), c32_6) ⟨(by first | rfl | assumption | omega | (simp_all; done) | grind), (by first | rfl | assumption | omega | (simp_all; done) | grind)⟩ (by first | omega | (dsimp only; omega)) (A_G ⟨rfl, rfl, rfl, A_P (av_vec (congrArg List.length (show mapR (fun z => c.blkR (steps + c.mem) (z / c.k) (z % c.k) (c.deg (z % c.k) + 1) 0) (t * c.k + (i + 1)) = (mapR (fun z => c.blkR (steps + c.mem) (z / c.k) (z % c.k) (c.deg (z % c.k) + 1) 0) (t * c.k + i)) ++ [fltTo (c.refL (c.term (c.unitU steps t i))) (c.refL (c.term (c.unitU steps t i))).length] by rw [hflt]; first | exact Cnv.blkL_step t0 i0 (by omega) | exact (Cnv.blkL_step t0 i0 (by omega)).symm).symm)), rfl, rfl, trivial⟩ (A_J (A_e (show mapR (fun z => c.blkR (steps + c.mem) (z / c.k) (z % c.k) (c.deg (z % c.k) + 1) 0) (t * c.k + (i + 1)) = (mapR (fun z => c.blkR (steps + c.mem) (z / c.k) (z % c.k) (c.deg (z % c.k) + 1) 0) (t * c.k + i)) ++ [fltTo (c.refL (c.term (c.unitU steps t i))) (c.refL (c.term (c.unitU steps t i))).length] by rw [hflt]; first | exact Cnv.blkL_step t0 i0 (by omega) | exact (Cnv.blkL_step t0 i0 (by omega)).symm)) (rfl)))
  refine A_a ?_
  refine A_v K7 ?_
  refine A_F ?_
  refine emm rfl ?_
  refine A_A rfl (A_j rfl rfl (by omega) (by omega)) ?_
  refine emm rfl ?_
  refine A_N ?_
  refine A_R (s := (t, rr4, cc4)) (t + 1, rr5, cc5) ⟨(by first | rfl | assumption | omega | (simp_all; done) | grind), (by first | rfl | assumption | omega | (simp_all; done) | grind)⟩ (by first | omega | (dsimp only; omega)) (A_G ⟨rfl, rfl, rfl, A_P (av_vec (congrArg List.length (show mapR (fun z => c.blkR (steps + c.mem) (z / c.k) (z % c.k) (c.deg (z % c.k) + 1) 0) ((t + 1) * c.k) = mapR (fun z => c.blkR (steps + c.mem) (z / c.k) (z % c.k) (c.deg (z % c.k) + 1) 0) (t * c.k + i) by rw [show i = c.k by omega, Int.add_mul, Int.one_mul]).symm)), rfl, trivial⟩ (A_J (A_e (show mapR (fun z => c.blkR (steps + c.mem) (z / c.k) (z % c.k) (c.deg (z % c.k) + 1) 0) ((t + 1) * c.k) = mapR (fun z => c.blkR (steps + c.mem) (z / c.k) (z % c.k) (c.deg (z % c.k) + 1) 0) (t * c.k + i) by rw [show i = c.k by omega, Int.add_mul, Int.one_mul])) (rfl)))
 refine A_a ?_
 refine A_v K3 ?_
 refine A_E fun _ K12 => ?_
 have hbl : mapR (fun z => c.blkR (steps + c.mem) (z / c.k) (z % c.k) (c.deg (z % c.k) + 1) 0) (t * c.k) = c.blkL steps (steps + c.mem) := by rw [show t = steps by omega]; rfl
 rw [hbl]
 refine ent_give 0 5 rfl (cv_vec (k := 0) (off_erase rfl) (by first | rfl | assumption | (simp; done) | (simp_all; done) | omega) rfl) ?_
 refine A_x 14 mixed (by kernel_rfl) (by kernel_rfl) (by kernel_rfl) ?_
 refine dw_o rfl (A_B runUnderlying27 rfl sizeOf24 (by decide) rfl) ?_
 refine dw_o rfl (A_V (k := 1) ti24 rfl rfl rfl) ?_
 refine dw_o rfl (A_K rfl) ?_
 refine dw_o rfl (A_B runUnderlying27 rfl sizeOf25 (by decide) rfl) ?_
 refine dw_o rfl (A_L (k := 1) isAgg25 rfl rfl rfl) ?_
 refine dw_o rfl (A_U [] sl25 rfl rfl (by omega) (by omega)) ?_
 refine dw_o rfl (A_Q ti42 rfl) ?_
 refine dw_o rfl (A_p rfl runUnderlying42 rfl) ?_
 refine dw_o rfl (A_K rfl) ?_
 refine dw_o rfl (A_V (k := 1) ti27 rfl rfl rfl) ?_
 refine dw_o rfl (A_b (rMemory_ok c hFew) rfl) ?_
 refine dw_o rfl (A_j rfl rfl (by omega) (by omega)) ?_
 refine dw_o rfl (ok_mul rfl rfl (by omega) (by omega)) ?_
 refine dw_o rfl (ok_callA (rMake_ok c.F (c.blkL steps (steps + c.mem)) (c.n * (steps + c.mem)) hF (Cnv.blkL_good hS _ _) (by omega) (by omega) (by unfold Cnv.blkL; rw [A_o]; omega)) ⟨arg_a rfl (cv_id sub_refl), arg_a rfl (cv_id sub_refl), arg_a rfl (A_Y (by first | rfl | assumption | omega | (simp_all; done) | grind)), trivial⟩) ?_
 refine dw_nil ?_
 refine ent_storeBS (k := 0) sizeOf69 rfl rfl rfl (AllOne.mem ⟨(A_M _), (A_M _), A_i, (A_M _), A_i, trivial⟩) rfl rfl ?_
 show Ent _ ⟨_, [_, _]⟩ _
 refine enk K12 ?_
 refine A_S ?_
 exact retR1 (.inr rfl) results53 (resr_cell (k := 0) ti69 rfl rfl rfl (cv_agg ⟨A_Y (by rfl), A_Y (by rfl), cv_sl sub_x (by rfl), A_Y (by rfl), cv_sl sub_x (by rfl), trivial⟩))

theorem rTailBiting_ok (c : Cnv) (steps : Int) (hFew : c.Few) (hOk : c.Ok) (s1 : 1 <= steps) (hl : c.n * steps <= 64) : Ctr Try.prog 54 [aCnv c, aInt steps] (aCod (c.tC steps steps)) := by
 have hF := hOk.fld
 have hS := hF.1
 have hq := hS.bd
 have hik : c.k = (c.Gen.length : Int) := rfl
 have hen : c.n = ((ix [] c.Gen 0).length : Int) := rfl
 have hkn := hOk.kn
 have hnl := hOk.len
 have hn1 : 1 <= c.n := by omega
 have hmn : 0 <= c.mem := c.maxD_nonneg c.Gen.length
 have hm4 := hFew.mem_le
 have hmm : ((ix [] c.Gen 0).length : Int) * steps = c.n * steps := by rw [<- hen]
 have hl1 : 1 <= steps := by omega
 have hnl1 : 1 * 1 <= c.n * steps := Int.mul_le_mul (by omega) (by omega) (by omega) (by omega)
 have hle64 : 1 * steps <= c.n * steps := Int.mul_le_mul_of_nonneg_right (by omega) (by omega)
 have hsk : steps * c.k <= c.n * steps := by rw [Int.mul_comm c.n]; exact Int.mul_le_mul (by omega) (by omega) (by omega) (by omega)
 refine ctr_of Try.call54 func54 rfl rfl ?_
 intro w O
 refine A_l 0 2 rfl rfl (fun hlen0_2 => ?_)
 refine A_l 0 3 rfl rfl (fun hlen0_3 => ?_)
 refine esr rfl fun _ K1 => ?_
 refine A_s rfl rfl (AllOne.mem ⟨(A_M _), (A_M _), A_i, A_i, trivial⟩) (fun b2_1 => ?_)
 refine ent_alloc (z := .agg #[.int .i64 0, .int .i64 0, .slice none 0 0, .int .i64 0, .slice none 0 0]) [aInt 0, aInt 0, aEx (.slice none 0 0), aInt 0, aEx (.slice none 0 0)] rfl zv69 rfl zc69 (fun b4_2 => ?_)
 refine enk K1 ?_
 refine esr rfl fun _ K2 => ?_
 refine A_A rfl (A_B runUnderlying27 rfl sizeOf25 (by decide) rfl) ?_
 refine A_A rfl (A_L (k := 1) isAgg25 rfl rfl rfl) ?_
 refine A_A rfl (A_U [] sl25 rfl rfl (by omega) (by omega)) ?_
 refine A_A rfl (A_Q ti42 rfl) ?_
 refine A_A rfl (A_p rfl runUnderlying42 rfl) ?_
 refine emm rfl ?_
 refine enk K2 ?_
 refine esk rfl ?_
 refine A_E fun _ K4 => ?_
 refine esk rfl ?_
 refine A_H ?_
 refine ent_open 22 1 false aInts (fun _ => rfl) ?_
 refine A_Z (fun (ss : Int × Option Nat × Nat) => match ss with | (t, rr4, cc4) => (⟨[(1, aInt steps), (2, aEx (.pointer (some ⟨b2_1, 0, none⟩))), (4, aEx (.pointer (some ⟨b4_2, 0, none⟩))), (5, aInt (↑(ix [] c.Gen 0).length : Int)), (6, aEx (vec rr4 ((mapR (fun z => c.blkR steps (z / c.k) (z % c.k) (c.deg (z % c.k) + 1) 0) (t * c.k)).length) cc4)), (7, aInt t)], [oVec rr4 cc4 22 1 false aInts (mapR (fun z => c.blkR steps (z / c.k) (z % c.k) (c.deg (z % c.k) + 1) 0) (t * c.k)), oBox b4_2 69 [aInt 0, aInt 0, aEx (.slice none 0 0), aInt 0, aEx (.slice none 0 0)], oBox b2_1 27 [aInt c.F.P, aInt c.F.M, aSl 1 false aInt c.F.mod, aSl 1 false aRows c.Gen]]⟩ : St)) (fun (ss : Int × Option Nat × Nat) => match ss with | (t, rr4, cc4) => (0 <= t) /\ (t <= steps)) (fun (ss : Int × Option Nat × Nat) => match ss with | (t, rr4, cc4) => (steps - t).toNat) (0, none, 0) ⟨(by first | rfl | assumption | omega | (simp_all; done) | grind), (by first | rfl | assumption | omega | (simp_all; done) | grind)⟩ (A_G ⟨rfl, rfl, rfl, rfl, A_P ((show aEx (vec none ([] : List _).length 0) = aEx (vec none ((mapR (fun z => c.blkR steps (z / c.k) (z % c.k) (c.deg (z % c.k) + 1) 0) ((0 : Int) * c.k)).length) 0) from av_vec (congrArg List.length (show mapR (fun z => c.blkR steps (z / c.k) (z % c.k) (c.deg (z % c.k) + 1) 0) ((0 : Int) * c.k) = [] by first | rfl | (rw [Int.zero_mul]; rfl)).symm))), A_P (A_d (show 0 = (0 : Int) by first | rfl | assumption | omega | (simp_all; done) | grind)), trivial⟩ (A_J (A_e (show mapR (fun z => c.blkR steps (z / c.k) (z % c.k) (c.deg (z % c.k) + 1) 0) ((0 : Int) * c.k) = [] by first | rfl | (rw [Int.zero_mul]; rfl))) (rfl))) ?_
 rintro ⟨t, rr4, cc4⟩ ⟨t0, t1⟩
 show Ent _ ⟨_, [_, _, _]⟩ _
 have lmt := A_o (fun z => c.blkR steps (z / c.k) (z % c.k) (c.deg (z % c.k) + 1) 0) (t * c.k)
 have htk := Int.mul_nonneg t0 (show 0 <= c.k by omega)
 have htk2 := Int.mul_le_mul_of_nonneg_right t1 (show 0 <= c.k by omega)
 refine A_E fun _ K6 => ?_
 refine esr rfl fun _ K7 => ?_
 refine A_A rfl (A_q rfl rfl) ?_
 refine enk K7 ?_
 refine A_I rfl (fun h20 => ?_) (fun h20 => ?_)
 ·refine esp K6 ?_
  refine A_E fun _ K8 => ?_
  refine A_H ?_
  refine esk rfl ?_
  refine A_H ?_
  refine A_Z (fun (ss : Int × Option Nat × Nat) => match ss with | (i, rr5, cc5) => (⟨[(1, aInt steps), (2, aEx (.pointer (some ⟨b2_1, 0, none⟩))), (4, aEx (.pointer (some ⟨b4_2, 0, none⟩))), (5, aInt (↑(ix [] c.Gen 0).length : Int)), (6, aEx (vec rr5 ((mapR (fun z => c.blkR steps (z / c.k) (z % c.k) (c.deg (z % c.k) + 1) 0) (t * c.k + i)).length) cc5)), (7, aInt t), (8, aInt i)], [oVec rr5 cc5 22 1 false aInts (mapR (fun z => c.blkR steps (z / c.k) (z % c.k) (c.deg (z % c.k) + 1) 0) (t * c.k + i)), oBox b4_2 69 [aInt 0, aInt 0, aEx (.slice none 0 0), aInt 0, aEx (.slice none 0 0)], oBox b2_1 27 [aInt c.F.P, aInt c.F.M, aSl 1 false aInt c.F.mod, aSl 1 false aRows c.Gen]]⟩ : St)) (fun (ss : Int × Option Nat × Nat) => match ss with | (i, rr5, cc5) => (0 <= i) /\ (i <= c.k)) (fun (ss : Int × Option Nat × Nat) => match ss with | (i, rr5, cc5) => (c.k - i).toNat) (0, rr4, cc4) ⟨(by first | rfl | assumption | omega | (simp_all; done) | grind), (by first | rfl | assumption | omega | (simp_all; done) | grind)⟩ (A_G ⟨rfl, rfl, rfl, rfl, A_P (av_vec (congrArg List.length (show mapR (fun z => c.blkR steps (z / c.k) (z % c.k) (c.deg (z % c.k) + 1) 0) (t * c.k + (0 : Int)) = mapR (fun z => c.blkR steps (z / c.k) (z % c.k) (c.deg (z % c.k) + 1) 0) (t * c.k) by first | rfl | (rw [Int.add_zero])).symm)), rfl, A_P (A_d (show 0 = (0 : Int) by first | rfl | assumption | omega | (simp_all; done) | grind)), trivial⟩ (A_J (A_e (show mapR (fun z => c.blkR steps (z / c.k) (z % c.k) (c.deg (z % c.k) + 1) 0) (t * c.k + (0 : Int)) = mapR (fun z => c.blkR steps (z / c.k) (z % c.k) (c.deg (z % c.k) + 1) 0) (t * c.k) by first | rfl | (rw [Int.add_zero]))) (rfl))) ?_
  rintro ⟨i, rr5, cc5⟩ ⟨i0, i1⟩
  show Ent _ ⟨_, [_, _, _]⟩ _
  have lmi := A_o (fun z => c.blkR steps (z / c.k) (z % c.k) (c.deg (z % c.k) + 1) 0) (t * c.k + i)
  refine A_E fun _ K10 => ?_
  refine esr rfl fun _ K11 => ?_
  refine A_A rfl (A_B runUnderlying27 rfl sizeOf25 (by decide) rfl) ?_
  refine A_A rfl (A_L (k := 2) isAgg25 rfl rfl rfl) ?_
  refine A_A rfl (A_p rfl runUnderlying25 rfl) ?_
  refine A_A rfl (A_q rfl rfl) ?_
  refine enk K11 ?_
  refine A_I rfl (fun h27 => ?_) (fun h27 => ?_)
  ·have hrow := hOk.row i0 (show i < c.Gen.length by omega)
   refine esp K10 ?_
   refine A_E fun _ K12 => ?_
   refine A_H ?_
   refine esr rfl fun _ K13 => ?_
   refine A_A rfl (ok_mul rfl rfl (by omega) (by omega)) ?_
   refine ent_make aInt 0 rfl vt22 rfl rfl (by omega) (by omega) (by omega) (fun _ _ => rfl) (AllV.mem ⟨rfl, trivial⟩) (fun b33_6 => ?_)
   refine emm rfl ?_
   refine enk K13 ?_
   refine A_E fun _ K14 => ?_
   refine esk rfl ?_
   refine A_H ?_
   refine A_Z (fun (j : Int) => (⟨[(1, aInt steps), (2, aEx (.pointer (some ⟨b2_1, 0, none⟩))), (4, aEx (.pointer (some ⟨b4_2, 0, none⟩))), (5, aInt (↑(ix [] c.Gen 0).length : Int)), (6, aEx (vec rr5 ((mapR (fun z => c.blkR steps (z / c.k) (z % c.k) (c.deg (z % c.k) + 1) 0) (t * c.k + i)).length) cc5)), (7, aInt t), (8, aInt i), (9, aEx (vec (some b33_6) (((↑(ix [] c.Gen 0).length : Int) * steps).toNat) (((↑(ix [] c.Gen 0).length : Int) * steps).toNat))), (10, aInt j)], [oVec (some b33_6) (((↑(ix [] c.Gen 0).length : Int) * steps).toNat) 3 1 false aInt (c.tbR steps t i j 0), oVec rr5 cc5 22 1 false aInts (mapR (fun z => c.blkR steps (z / c.k) (z % c.k) (c.deg (z % c.k) + 1) 0) (t * c.k + i)), oBox b4_2 69 [aInt 0, aInt 0, aEx (.slice none 0 0), aInt 0, aEx (.slice none 0 0)], oBox b2_1 27 [aInt c.F.P, aInt c.F.M, aSl 1 false aInt c.F.mod, aSl 1 false aRows c.Gen]]⟩ : St)) (fun (j : Int) => (0 <= j) /\ (j <= c.n)) (fun (j : Int) => (c.n - j).toNat) 0 ⟨(by first | rfl | assumption | omega | (simp_all; done) | grind), (by first | rfl | assumption | omega | (simp_all; done) | grind)⟩ (A_G ⟨rfl, rfl, rfl, rfl, rfl, rfl, rfl, rfl, A_P (A_d (show 0 = (0 : Int) by first | rfl | assumption | omega | (simp_all; done) | grind)), trivial⟩ (A_J (A_e (show c.tbR steps t i (0 : Int) 0 = List.replicate (((↑(ix [] c.Gen 0).length : Int) * steps).toNat) 0 by first | exact Cnv.tbR_zero (c := c) hn1 steps t i | exact (Cnv.tbR_zero (c := c) hn1 steps t i).symm)) (rfl))) ?_
   rintro j ⟨j0, j1⟩
   show Ent _ ⟨_, [_, _, _, _]⟩ _
   have lbj := Cnv.length_tbR (c := c) steps t i j 0
   refine A_E fun _ K16 => ?_
   refine esr rfl fun _ K17 => ?_
   refine A_A rfl (A_q rfl rfl) ?_
   refine enk K17 ?_
   refine A_I rfl (fun h36 => ?_) (fun h36 => ?_)
   ·have hp40 := (hFew.2 _ (ix_mem [] c.Gen i0 (by omega))).2 _ (ix_mem [] (ix [] c.Gen i) j0 (by omega))
    refine esp K16 ?_
    refine A_E fun _ K18 => ?_
    refine A_H ?_
    refine esk rfl ?_
    refine A_H ?_
    refine A_Z (fun (d : Int) => (⟨[(1, aInt steps), (2, aEx (.pointer (some ⟨b2_1, 0, none⟩))), (4, aEx (.pointer (some ⟨b4_2, 0, none⟩))), (5, aInt (↑(ix [] c.Gen 0).length : Int)), (6, aEx (vec rr5 ((mapR (fun z => c.blkR steps (z / c.k) (z % c.k) (c.deg (z % c.k) + 1) 0) (t * c.k + i)).length) cc5)), (7, aInt t), (8, aInt i), (9, aEx (vec (some b33_6) (((↑(ix [] c.Gen 0).length : Int) * steps).toNat) (((↑(ix [] c.Gen 0).length : Int) * steps).toNat))), (10, aInt j), (11, aInt d)], [oVec (some b33_6) (((↑(ix [] c.Gen 0).length : Int) * steps).toNat) 3 1 false aInt (c.tbR steps t i j d), oVec rr5 cc5 22 1 false aInts (mapR (fun z => c.blkR steps (z / c.k) (z % c.k) (c.deg (z % c.k) + 1) 0) (t * c.k + i)), oBox b4_2 69 [aInt 0, aInt 0, aEx (.slice none 0 0), aInt 0, aEx (.slice none 0 0)], oBox b2_1 27 [aInt c.F.P, aInt c.F.M, aSl 1 false aInt c.F.mod, aSl 1 false aRows c.Gen]]⟩ : St)) (fun (d : Int) => (0 <= d) /\ (d <= (ix [] (ix [] c.Gen i) j).length)) (fun (d : Int) => ((ix [] (ix [] c.Gen i) j).length - d).toNat) 0 ⟨(by first | rfl | assumption | omega | (simp_all; done) | grind), (by first | rfl | assumption | omega | (simp_all; done) | grind)⟩ (A_G ⟨rfl, rfl, rfl, rfl, rfl, rfl, rfl, rfl, rfl, A_P (A_d (show 0 = (0 : Int) by first | rfl | assumption | omega | (simp_all; done) | grind)), trivial⟩ (A_J (A_e (show c.tbR steps t i j (0 : Int) = c.tbR steps t i j 0 by rfl)) (rfl))) ?_
    rintro d ⟨d0, d1⟩
    show Ent _ ⟨_, [_, _, _, _]⟩ _
    have lbd := Cnv.length_tbR (c := c) steps t i j d
    refine A_E fun _ K20 => ?_
    refine esr rfl fun _ K21 => ?_
    refine A_A rfl (A_B runUnderlying27 rfl sizeOf25 (by decide) rfl) ?_
    refine A_A rfl (A_L (k := 3) isAgg25 rfl rfl rfl) ?_
    refine emm rfl ?_
    refine A_A rfl (A_U [] sl25 rfl rfl (by omega) (by omega)) ?_
    refine A_A rfl (A_Q ti42 rfl) ?_
    refine emm rfl ?_
    refine A_A rfl (A_U [] sl42 rfl rfl (by omega) (by omega)) ?_
    refine A_A rfl (A_Q ti22 rfl) ?_
    refine A_A rfl (A_p rfl runUnderlying22 rfl) ?_
    refine A_A rfl (A_q rfl rfl) ?_
    refine enk K21 ?_
    refine A_I rfl (fun h49 => ?_) (fun h49 => ?_)
    ·have hτ0 := Int.emod_nonneg (t + d) (show steps ≠ 0 by omega)
     have hτ1 := Int.emod_lt_of_pos (t + d) (show 0 < steps by omega)
     have hp0 := pl_rng (n := c.n) (len := steps) hτ0 hτ1 (Int.le_refl 0) (by omega)
     have hpj := pl_rng (n := c.n) (len := steps) hτ0 hτ1 j0 h36
     have hτm : (t + d) % steps * ((ix [] c.Gen 0).length : Int) = (t + d) % steps * c.n := by rw [<- hen]
     refine esp K20 ?_
     refine A_E fun _ K22 => ?_
     refine A_H ?_
     refine esr rfl fun _ K23 => ?_
     refine A_A rfl (A_j rfl rfl (by omega) (by omega)) ?_
     refine emm rfl ?_
     refine A_A rfl (ok_rem rfl rfl (by omega) (by omega)) ?_
     refine emm rfl ?_
     refine A_A rfl (ok_mul rfl rfl (by omega) (by omega)) ?_
     refine emm rfl ?_
     refine A_A rfl (A_j rfl rfl (by omega) (by omega)) ?_
     refine emm rfl ?_
     refine enk K23 ?_
     refine A_x 21 mixed (by kernel_rfl) (by kernel_rfl) (by kernel_rfl) ?_
     refine dw_o rfl (A_K rfl) ?_
     refine dw_o rfl (A_K rfl) ?_
     refine dw_o rfl (A_B runUnderlying27 rfl sizeOf24 (by decide) rfl) ?_
     refine dw_o rfl (A_V (k := 3) ti24 rfl rfl rfl) ?_
     refine dw_o rfl (A_K rfl) ?_
     refine dw_o rfl (A_K rfl) ?_
     refine dw_o rfl (A_n sl22 rfl rfl (by omega) (by omega)) ?_
     refine dw_o rfl (ok_loadV (k := 0) 0 ti3 rfl rfl (by omega) (by omega)) ?_
     refine dw_o rfl (A_B runUnderlying27 rfl sizeOf25 (by decide) rfl) ?_
     refine dw_o rfl (A_L (k := 3) isAgg25 rfl rfl rfl) ?_
     refine dw_o rfl (A_K rfl) ?_
     refine dw_o rfl (A_U [] sl25 rfl rfl (by omega) (by omega)) ?_
     refine dw_o rfl (A_Q ti42 rfl) ?_
     refine dw_o rfl (A_K rfl) ?_
     refine dw_o rfl (A_U [] sl42 rfl rfl (by omega) (by omega)) ?_
     refine dw_o rfl (A_Q ti22 rfl) ?_
     refine dw_o rfl (A_K rfl) ?_
     refine dw_o rfl (A_U 0 sl22 rfl rfl (by omega) (by omega)) ?_
     refine dw_o rfl (A_Q ti3 rfl) ?_
     refine dw_o rfl (A_b (rAdd_ok c.F (ix 0 (c.tbR steps t i j d) ((((t + d) % steps) * (↑(ix [] c.Gen 0).length : Int)) + j)) (ix 0 (ix [] (ix [] c.Gen i) j) d) (by first | rfl | assumption | omega | (simp_all; done) | grind)) rfl) ?_
     refine dw_o rfl (A_n sl22 rfl rfl (by omega) (by omega)) ?_
     refine dw_nil ?_
     refine ent_storeV (k := 0) (z := addF c.F (ix 0 (c.tbR steps t i j d) ((((t + d) % steps) * (↑(ix [] c.Gen 0).length : Int)) + j)) (ix 0 (ix [] (ix [] c.Gen i) j) d)) ti3 rfl rfl rfl (A_u (A_M _)) (by omega) (by omega) ?_
     refine enk K22 ?_
     refine A_F ?_
     refine emm rfl ?_
     refine A_A rfl (A_j rfl rfl (by omega) (by omega)) ?_
     refine emm rfl ?_
     refine A_N ?_
     refine A_R (s := (d)) (d + 1) ⟨(by first | rfl | assumption | omega | (simp_all; done) | grind), (by first | rfl | assumption | omega | (simp_all; done) | grind)⟩ (by first | omega | (dsimp only; omega)) (A_G ⟨rfl, rfl, rfl, rfl, rfl, rfl, rfl, rfl, rfl, rfl, trivial⟩ (A_J (A_e (show c.tbR steps t i j (d + 1) = List.set (c.tbR steps t i j d) ((((t + d) % steps) * (↑(ix [] c.Gen 0).length : Int)) + j).toNat (addF c.F (ix 0 (c.tbR steps t i j d) ((((t + d) % steps) * (↑(ix [] c.Gen 0).length : Int)) + j)) (ix 0 (ix [] (ix [] c.Gen i) j) d)) by exact (Cnv.tbR_set (c := c) (t := t) (i := i) (len := steps) rfl hl1 d0 j0 h36).symm)) (rfl)))
    refine A_a ?_
    refine A_v K18 ?_
    refine A_F ?_
    refine emm rfl ?_
    refine A_A rfl (A_j rfl rfl (by omega) (by omega)) ?_
    refine emm rfl ?_
    refine A_N ?_
    refine A_R (s := (j)) (j + 1) ⟨(by first | rfl | assumption | omega | (simp_all; done) | grind), (by first | rfl | assumption | omega | (simp_all; done) | grind)⟩ (by first | omega | (dsimp only; omega)) (A_G ⟨rfl, rfl, rfl, rfl, rfl, rfl, rfl, rfl, rfl, trivial⟩ (A_J (A_e (show c.tbR steps t i (j + 1) 0 = c.tbR steps t i j d by first | exact Cnv.tbR_next (c := c) hn1 steps t i (by omega) | exact (Cnv.tbR_next (c := c) hn1 steps t i (by omega)).symm)) (rfl)))
   refine A_a ?_
   refine A_v K14 ?_
   refine ent_give 0 9 rfl (cv_vec (k := 0) (off_erase rfl) (by first | rfl | assumption | (simp; done) | (simp_all; done) | omega) rfl) ?_
   refine A_F ?_
   refine emm rfl ?_
   refine ent_appendL (k := 0) (enc := aInts) (y := c.tbR steps t i j 0) rfl rfl vt42 rfl rfl (by first | rfl | assumption | (simp; done) | (simp_all; done) | omega) rfl ((A_u A_i)) (by first | omega | (simp only [List.length_append, List.length_cons, List.length_nil]; omega) | (simp; omega) | (simp; done)) (by first | omega | (simp only [List.length_append, List.length_cons, List.length_nil]; omega) | (simp; omega) | (simp; done)) (by decide) (fun b85_7 c85_7 => ?_)
   refine emm rfl ?_
   refine enk K12 ?_
   refine A_F ?_
   refine emm rfl ?_
   refine A_A rfl (A_j rfl rfl (by omega) (by omega)) ?_
   refine emm rfl ?_
   refine A_N ?_
   refine A_R (s := (i, rr5, cc5)) (i + 1, (some b85_7), c85_7) ⟨(by first | rfl | assumption | omega | (simp_all; done) | grind), (by first | rfl | assumption | omega | (simp_all; done) | grind)⟩ (by first | omega | (dsimp only; omega)) (A_G ⟨rfl, rfl, rfl, rfl, A_P (av_vec (congrArg List.length (show mapR (fun z => c.blkR steps (z / c.k) (z % c.k) (c.deg (z % c.k) + 1) 0) (t * c.k + (i + 1)) = (mapR (fun z => c.blkR steps (z / c.k) (z % c.k) (c.deg (z % c.k) + 1) 0) (t * c.k + i)) ++ [c.tbR steps t i j 0] by rw [Cnv.tbR_all hOk i0 (by omega) (show j = c.n by omega)]; first | exact Cnv.blkL_step t0 i0 (by omega) | exact (Cnv.blkL_step t0 i0 (by omega)).symm).symm)), rfl, rfl, trivial⟩ (A_J (A_e (show mapR (fun z => c.blkR steps (z / c.k) (z % c.k) (c.deg (z % c.k) + 1) 0) (t * c.k + (i + 1)) = (mapR (fun z => c.blkR steps (z / c.k) (z % c.k) (c.deg (z % c.k) + 1) 0) (t * c.k + i)) ++ [c.tbR steps t i j 0] by rw [Cnv.tbR_all hOk i0 (by omega) (show j = c.n by omega)]; first | exact Cnv.blkL_step t0 i0 (by omega) | exact (Cnv.blkL_step t0 i0 (by omega)).symm)) (rfl)))
  refine A_a ?_
  refine A_v K8 ?_
  refine A_F ?_
  refine emm rfl ?_
  refine A_A rfl (A_j rfl rfl (by omega) (by omega)) ?_
  refine emm rfl ?_
  refine A_N ?_
  refine A_R (s := (t, rr4, cc4)) (t + 1, rr5, cc5) ⟨(by first | rfl | assumption | omega | (simp_all; done) | grind), (by first | rfl | assumption | omega | (simp_all; done) | grind)⟩ (by first | omega | (dsimp only; omega)) (A_G ⟨rfl, rfl, rfl, rfl, A_P (av_vec (congrArg List.length (show mapR (fun z => c.blkR steps (z / c.k) (z % c.k) (c.deg (z % c.k) + 1) 0) ((t + 1) * c.k) = mapR (fun z => c.blkR steps (z / c.k) (z % c.k) (c.deg (z % c.k) + 1) 0) (t * c.k + i) by rw [show i = c.k by omega, Int.add_mul, Int.one_mul]).symm)), rfl, trivial⟩ (A_J (A_e (show mapR (fun z => c.blkR steps (z / c.k) (z % c.k) (c.deg (z % c.k) + 1) 0) ((t + 1) * c.k) = mapR (fun z => c.blkR steps (z / c.k) (z % c.k) (c.deg (z % c.k) + 1) 0) (t * c.k + i) by rw [show i = c.k by omega, Int.add_mul, Int.one_mul])) (rfl)))
 refine A_a ?_
 refine A_v K4 ?_
 refine A_E fun _ K24 => ?_
 have hbl : mapR (fun z => c.blkR steps (z / c.k) (z % c.k) (c.deg (z % c.k) + 1) 0) (t * c.k) = c.blkL steps steps := by rw [show t = steps by omega]; rfl
 rw [hbl]
 refine ent_give 0 6 rfl (cv_vec (k := 0) (off_erase rfl) (by first | rfl | assumption | (simp; done) | (simp_all; done) | omega) rfl) ?_
 refine A_F ?_
 refine A_A rfl (A_B runUnderlying27 rfl sizeOf24 (by decide) rfl) ?_
 refine A_A rfl (A_V (k := 1) ti24 rfl rfl rfl) ?_
 refine emm rfl ?_
 refine A_A rfl (ok_mul rfl rfl (by omega) (by omega)) ?_
 refine A_A rfl (ok_callA (rMake_ok c.F (c.blkL steps steps) (c.n * steps) hF (Cnv.blkL_good hS _ _) (by omega) (by omega) (by unfold Cnv.blkL; rw [A_o]; omega)) ⟨arg_a rfl (cv_id sub_refl), arg_a rfl (cv_id sub_refl), arg_a rfl (A_Y (by first | rfl | assumption | omega | (simp_all; done) | grind)), trivial⟩) ?_
 refine ent_storeBS (k := 0) sizeOf69 rfl rfl rfl (AllOne.mem ⟨(A_M _), (A_M _), A_i, (A_M _), A_i, trivial⟩) rfl rfl ?_
 show Ent _ ⟨_, [_, _]⟩ _
 refine enk K24 ?_
 refine A_S ?_
 exact retR1 (.inr rfl) results54 (resr_cell (k := 0) ti69 rfl rfl rfl (cv_agg ⟨A_Y (by rfl), A_Y (by rfl), cv_sl sub_x (by rfl), A_Y (by rfl), cv_sl sub_x (by rfl), trivial⟩))
end Go.Proofs.Ytfjhbdfgbpcchaa

