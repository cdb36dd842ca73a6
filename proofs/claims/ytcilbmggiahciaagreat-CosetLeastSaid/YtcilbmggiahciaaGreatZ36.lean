/-
  Walks of functions of the program and the reference.
-/
import Derived.Test.YtcilbmggiahciaaGreatZ35
open Go Go.Cw
namespace Go.Proofs.YtcilbmggiahciaaGreat
open Tryz
set_option maxRecDepth 100000
set_option linter.unusedVariables false
set_option linter.unusedSimpArgs false

theorem Sub_ok (f : Fld) (x y : Int) (hF : FOk f) : Ctr Tryz.prog 48 [aGF f, aInt x, aInt y] (aInt (addF f x (negF f y))) := by
 refine A_q Tryz.call48 func48 rfl rfl ?_
 intro w O
 refine ent_lenP 0 4 rfl rfl (fun hlen0_4 => ?_)
 refine ent_lenP 0 5 rfl rfl (fun hlen0_5 => ?_)
 refine esk rfl ?_
 refine esr rfl fun _ K2 => ?_
 refine A_A rfl (A_S (Neg_ok f y ‹_›) rfl) ?_
 refine A_A rfl (A_S (Add_ok f x (negF f y) ‹_›) rfl) ?_
 refine emm rfl ?_
 refine enk K2 ?_
 refine A_Q ?_
 exact retR1 (.inr rfl) results48 (A_H (A_T rfl (A_Y rfl)))

theorem minus_ok (c : Cod) (x j a : Int) (hk : COk c) (hx : c.F.q ^ (dua c).Gen.length <= 65536) (x0 : 0 <= x) (x1 : x <= 1000000) (j0 : 0 <= j) (j1 : j < c.N) : Ctr Tryz.prog 44 [aSp c, aInt x, aInt j, aInt a] (aInt (minV c x j a)) := by
 have hqb := hk.fld.1.bd
 have hdd := hk.dim_dua
 have hn64 := hk.n64
 have hq2 := hk.q2
 have ltn := length_turnL (dua c).Gen c.N
 have ldc := dcol_len c j0 j1
 have ldc2 : (ix [] (turnL (dua c).Gen c.N) j).length = (dua c).Gen.length := ldc
 have hG : ∀ i : Int, 0 <= i -> i < ((dua c).Gen.length : Int) -> 0 <= (fun zz => addF c.F (dig c.F.q (dua c).Gen.length x zz) (negF c.F (mulF c.F a (ix 0 (dcol c j) zz)))) i /\ (fun zz => addF c.F (dig c.F.q (dua c).Gen.length x zz) (negF c.F (mulF c.F a (ix 0 (dcol c j) zz)))) i < c.F.q := fun i _ _ => hk.fld.1.addF_lt _ _
 refine A_q Tryz.call44 func44 rfl rfl ?_
 intro w O
 refine ent_lenP 0 5 rfl rfl (fun hlen0_5 => ?_)
 refine esk rfl ?_
 refine esk rfl ?_
 refine A_C fun _ K3 => ?_
 refine esr rfl fun _ K4 => ?_
 refine A_A rfl (A_k rfl) ?_
 refine A_A rfl (A_a runUnderlying70 rfl sizeOf3 rfl rfl) ?_
 refine A_A rfl (A_U ti3 rfl) ?_
 refine A_A rfl (ok_sub rfl rfl (by omega) (by omega)) ?_
 refine emm rfl ?_
 refine enk K4 ?_
 refine A_K ?_
 refine A_e (fun (i : Int) => (⟨[(0, aSp c), (1, aInt (x / c.F.q ^ (((dua c).Gen.length : Int) - 1 - i).toNat)), (2, aInt j), (3, aInt a), (9, aInt (sufV c.F.q (fun zz => addF c.F (dig c.F.q (dua c).Gen.length x zz) (negF c.F (mulF c.F a (ix 0 (dcol c j) zz)))) ((dua c).Gen.length : Int) i)), (10, aInt (c.F.q ^ (((dua c).Gen.length : Int) - 1 - i).toNat)), (11, aInt i)], []⟩ : St)) (fun (i : Int) => (-1 <= i) /\ (i < ((dua c).Gen.length : Int))) (fun (i : Int) => (i + 1).toNat) (((dua c).Gen.length : Int) - 1) ⟨(by omega), (by omega)⟩ (A_G ⟨rfl, A_W (A_j (show x = x / c.F.q ^ (((dua c).Gen.length : Int) - 1 - (((dua c).Gen.length : Int) - 1)).toNat by simp)), rfl, rfl, A_W (A_j (show 0 = sufV c.F.q (fun zz => addF c.F (dig c.F.q (dua c).Gen.length x zz) (negF c.F (mulF c.F a (ix 0 (dcol c j) zz)))) ((dua c).Gen.length : Int) (((dua c).Gen.length : Int) - 1) by exact (sufV_top _ _ _).symm)), A_W (A_j (show 1 = c.F.q ^ (((dua c).Gen.length : Int) - 1 - (((dua c).Gen.length : Int) - 1)).toNat by simp)), rfl, trivial⟩ rfl) ?_
 rintro i ⟨i0, i1⟩
 show Ent _ ⟨_, []⟩ _
 have hsb := sufV_bd hq2 hG i0
 have hp1 := pow_pos_of c.F.q hq2 (((dua c).Gen.length : Int) - 1 - i).toNat
 have hcu : 0 <= x / c.F.q ^ (((dua c).Gen.length : Int) - 1 - i).toNat /\ x / c.F.q ^ (((dua c).Gen.length : Int) - 1 - i).toNat <= x := ⟨Int.ediv_nonneg x0 (by omega), Int.ediv_le_self _ x0⟩
 refine A_C fun _ K5 => ?_
 refine esr rfl fun _ K6 => ?_
 refine A_A rfl (ok_geq rfl rfl) ?_
 refine enk K6 ?_
 refine A_E rfl (fun h18 => ?_) (fun h18 => ?_)
 ·have hgi := hG i h18 i1
  have hgi2 := hk.fld.1.addF_lt (x / c.F.q ^ (((dua c).Gen.length : Int) - 1 - i).toNat % c.F.q) (negF c.F (mulF c.F a (ix 0 (ix [] (turnL (dua c).Gen c.N) j) i)))
  have hpm := pow_mono_of c.F.q hq2 (show (((dua c).Gen.length : Int) - 1 - i).toNat <= (dua c).Gen.length by omega)
  have hmm : 0 <= c.F.q ^ (((dua c).Gen.length : Int) - 1 - i).toNat * addF c.F (x / c.F.q ^ (((dua c).Gen.length : Int) - 1 - i).toNat % c.F.q) (negF c.F (mulF c.F a (ix 0 (ix [] (turnL (dua c).Gen c.N) j) i))) /\ c.F.q ^ (((dua c).Gen.length : Int) - 1 - i).toNat * addF c.F (x / c.F.q ^ (((dua c).Gen.length : Int) - 1 - i).toNat % c.F.q) (negF c.F (mulF c.F a (ix 0 (ix [] (turnL (dua c).Gen c.N) j) i))) <= 65536 * 256 := ⟨Int.mul_nonneg (by omega) hgi2.1, Int.mul_le_mul (by omega) (by omega) hgi2.1 (by decide)⟩
  have hmq : 0 <= c.F.q ^ (((dua c).Gen.length : Int) - 1 - i).toNat * c.F.q /\ c.F.q ^ (((dua c).Gen.length : Int) - 1 - i).toNat * c.F.q <= 65536 * 256 := ⟨Int.mul_nonneg (by omega) (by omega), Int.mul_le_mul (by omega) (by omega) (by omega) (by decide)⟩
  refine esp K5 ?_
  refine A_C fun _ K7 => ?_
  refine A_K ?_
  refine A_C fun _ K8 => ?_
  refine A_v 32 mixed (by kernel_rfl) (drawQ_F (by kernel_rfl)) (by kernel_rfl) ?_
  refine dw_o rfl (A_I rfl) ?_
  refine dw_o rfl (A_I rfl) ?_
  refine dw_o rfl (A_I rfl) ?_
  refine dw_o rfl (A_k rfl) ?_
  refine dw_o rfl (A_a runUnderlying70 rfl sizeOf68 rfl rfl) ?_
  refine dw_o rfl (A_U ti68 rfl) ?_
  refine dw_o rfl (A_I rfl) ?_
  refine dw_o rfl (A_I rfl) ?_
  refine dw_o rfl (A_k rfl) ?_
  refine dw_o rfl (A_a runUnderlying70 rfl sizeOf3 rfl rfl) ?_
  refine dw_o rfl (A_U ti3 rfl) ?_
  refine dw_o rfl (ok_rem rfl rfl (by omega) (by omega)) ?_
  refine dw_o rfl (A_I rfl) ?_
  refine dw_o rfl (A_k rfl) ?_
  refine dw_o rfl (A_a runUnderlying70 rfl sizeOf68 rfl rfl) ?_
  refine dw_o rfl (A_U ti68 rfl) ?_
  refine dw_o rfl (A_I rfl) ?_
  refine dw_o rfl (A_I rfl) ?_
  refine dw_o rfl (A_k rfl) ?_
  refine dw_o rfl (A_a runUnderlying70 rfl sizeOf25 rfl rfl) ?_
  refine dw_o rfl (A_U ti25 rfl) ?_
  refine dw_o rfl (A_I rfl) ?_
  refine dw_o rfl (A_d [] sl25 rfl rfl (by omega) (by omega)) ?_
  refine dw_o rfl (A_U ti22 rfl) ?_
  refine dw_o rfl (A_I rfl) ?_
  refine dw_o rfl (A_d 0 sl22 rfl rfl (by omega) (by omega)) ?_
  refine dw_o rfl (A_U ti3 rfl) ?_
  refine dw_o rfl (A_S (Mul_ok c.F a (ix 0 (ix [] (turnL (dua c).Gen c.N) j) i) hk.fld) rfl) ?_
  refine dw_o rfl (A_S (Sub_ok c.F ((x / c.F.q ^ (((dua c).Gen.length : Int) - 1 - i).toNat) % c.F.q) (mulF c.F a (ix 0 (ix [] (turnL (dua c).Gen c.N) j) i)) hk.fld) rfl) ?_
  refine dw_o rfl (ok_mul rfl rfl (by omega) (by omega)) ?_
  refine dw_o rfl (A_m rfl rfl (by omega) (by omega)) ?_
  refine dw_o rfl (ok_assign rfl) ?_
  refine dw_nil ?_
  refine enk K8 ?_
  refine esr rfl fun _ K9 => ?_
  refine A_A rfl (A_k rfl) ?_
  refine A_A rfl (A_a runUnderlying70 rfl sizeOf3 rfl rfl) ?_
  refine A_A rfl (A_U ti3 rfl) ?_
  refine A_A rfl (ok_quo rfl rfl (by omega) (by omega) (by omega)) ?_
  refine emm rfl ?_
  refine enk K9 ?_
  refine A_F ?_
  refine emm rfl ?_
  refine A_A rfl (A_k rfl) ?_
  refine A_A rfl (A_a runUnderlying70 rfl sizeOf3 rfl rfl) ?_
  refine A_A rfl (A_U ti3 rfl) ?_
  refine A_A rfl (ok_mul rfl rfl (by omega) (by omega)) ?_
  refine emm rfl ?_
  refine enk K7 ?_
  refine A_F ?_
  refine emm rfl ?_
  refine A_A rfl (ok_sub rfl rfl (by omega) (by omega)) ?_
  refine emm rfl ?_
  refine A_O ?_
  refine A_V (s := (i)) (i - 1) ⟨(by omega), (by omega)⟩ (by omega) (A_G ⟨rfl, A_W (A_j (show (x / c.F.q ^ (((dua c).Gen.length : Int) - 1 - i).toNat) / c.F.q = x / c.F.q ^ (((dua c).Gen.length : Int) - 1 - (i - 1)).toNat by exact cur_step (by omega) h18 i1)), rfl, rfl, A_W (A_j (show (sufV c.F.q (fun zz => addF c.F (dig c.F.q (dua c).Gen.length x zz) (negF c.F (mulF c.F a (ix 0 (dcol c j) zz)))) ((dua c).Gen.length : Int) i) + ((c.F.q ^ (((dua c).Gen.length : Int) - 1 - i).toNat) * (addF c.F ((x / c.F.q ^ (((dua c).Gen.length : Int) - 1 - i).toNat) % c.F.q) (negF c.F (mulF c.F a (ix 0 (ix [] (turnL (dua c).Gen c.N) j) i))))) = sufV c.F.q (fun zz => addF c.F (dig c.F.q (dua c).Gen.length x zz) (negF c.F (mulF c.F a (ix 0 (dcol c j) zz)))) ((dua c).Gen.length : Int) (i - 1) by exact (sufV_step _ _ h18 i1).symm)), A_W (A_j (show (c.F.q ^ (((dua c).Gen.length : Int) - 1 - i).toNat) * c.F.q = c.F.q ^ (((dua c).Gen.length : Int) - 1 - (i - 1)).toNat by exact (pow_step _ h18 i1).symm)), rfl, trivial⟩ rfl)
 refine A_c ?_
 refine A_t K3 ?_
 refine esk rfl ?_
 refine A_Q ?_
 exact retR1 (.inr rfl) results44 (A_H (A_T rfl (A_Y (by exact sufV_all _ _ _ (by omega)))))

end Go.Proofs.YtcilbmggiahciaaGreat

