/-
  Walks of functions of the program and the reference.
-/
import Derived.Test.YtfjhbdfgbpcchaaU10
open Go Go.Cw
namespace Go.Proofs.Ytfjhbdfgbpcchaa
open Try
set_option maxRecDepth 100000
set_option linter.unusedVariables false
set_option linter.unusedSimpArgs false
theorem Neg_ok (f : Fld) (x : Int) (hF : FOk f) : Ctr Try.prog 118 [aGF f, aInt x] (aInt (negF f x)) := by
 have hS := hF.1
 have hb := hS.bd
 have hix := inF_lt hS x
 have hsl := hS.negF_lt x
 have hw : negF f x = wneg f.P f.M.toNat (inF f x) := hS.negc_wneg _
 refine ctr_of Try.call118 func118 rfl rfl ?_
 intro w O
 refine ent_lenP 0 4 rfl rfl (fun hlen0_4 => ?_)
 refine ent_lenP 0 5 rfl rfl (fun hlen0_5 => ?_)
 refine esk rfl ?_
 refine esr rfl fun _ K2 => ?_
 refine A_A rfl (A_Y (in_ok f x) rfl) ?_
 refine emm rfl ?_
 refine enk K2 ?_
 refine esk rfl ?_
 refine A_C fun _ K4 => ?_
 refine A_H ?_
 refine A_a (fun (ss : Int × Int × Int × Nat) => match ss with | (u, t, pl, n) => (⟨[(0, aGF f), (1, aInt u), (5, aInt t), (6, aInt pl)], []⟩ : St)) (fun (ss : Int × Int × Int × Nat) => match ss with | (u, t, pl, n) => (0 <= u) /\ (u < f.P ^ n) /\ (1 <= pl) /\ (pl * f.P ^ n = f.q) /\ (0 <= t) /\ (t + pl * wneg f.P n u = negF f x)) (fun (ss : Int × Int × Int × Nat) => match ss with | (u, t, pl, n) => n) (inF f x, 0, 1, f.M.toNat) ⟨(by first | rfl | assumption | omega | (simp_all; done) | grind), (by omega), (by first | rfl | assumption | omega | (simp_all; done) | grind), (by omega), (by first | rfl | assumption | omega | (simp_all; done) | grind), (by rw [hw]; omega)⟩ (A_G ⟨rfl, rfl, A_P (A_c (show 0 = (0 : Int) by first | rfl | assumption | omega | (simp_all; done) | grind)), A_P (A_c (show 1 = (1 : Int) by first | rfl | assumption | omega | (simp_all; done) | grind)), trivial⟩ rfl) ?_
 rintro ⟨u, t, pl, n⟩ ⟨u0, u1, w0, hwq, t0, ht⟩
 show Ent _ ⟨_, []⟩ _
 refine A_C fun _ K5 => ?_
 refine esr rfl fun _ K6 => ?_
 refine A_A rfl (ok_gtr rfl rfl) ?_
 refine enk K6 ?_
 refine A_F rfl (fun h11 => ?_) (fun h11 => ?_)
 ·have hn : 1 <= n := by
   by_cases hn0 : n = 0
   ·subst hn0; simp at u1; omega
   omega
  have hpn : f.P ^ n = f.P ^ (n - 1) * f.P := by conv => lhs; rw [show n = n - 1 + 1 by omega, Int.pow_succ]
  have hpp := pow_pos_of f.P hb.1 n
  have hpp1 := pow_pos_of f.P hb.1 (n - 1)
  have hsu := wneg_succ f.P hn u
  have hwl : pl <= f.q := by have := Int.mul_le_mul_of_nonneg_left hpp (show 0 <= pl by omega); omega
  have hwp : pl * f.P <= f.q := by rw [<- hwq, hpn]; have := Int.mul_le_mul_of_nonneg_left hpp1 (show 0 <= pl * f.P by exact Int.mul_nonneg (by omega) (by omega)); rw [Int.mul_one, Int.mul_assoc, Int.mul_comm f.P] at this; exact this
  have hwp1 : pl <= pl * f.P := by have := Int.mul_le_mul_of_nonneg_left (show (1 : Int) <= f.P by omega) (show 0 <= pl by omega); omega
  have hd0 := Int.emod_nonneg u (show f.P ≠ 0 by omega)
  have hd1 := Int.emod_lt_of_pos u (show 0 < f.P by omega)
  have hd4 := Int.emod_nonneg (f.P - u % f.P) (show f.P ≠ 0 by omega)
  have hd5 := Int.emod_lt_of_pos (f.P - u % f.P) (show 0 < f.P by omega)
  have hm := mul_small hd4 (by omega) (show 0 <= pl by omega) (by omega)
  have hwn := wneg_nonneg f.P hb.1 n u
  have htl : t <= 256 := by have := Int.mul_nonneg (show 0 <= pl by omega) hwn; omega
  have hul : u <= 256 := by have := pow_le_q hwq w0 hpp; omega
  refine esp K5 ?_
  refine A_H ?_
  refine A_C fun _ K7 => ?_
  refine A_u 24 mixed (by kernel_rfl) (by kernel_rfl) (by kernel_rfl) ?_
  refine dw_o rfl (A_K rfl) ?_
  refine dw_o rfl (A_K rfl) ?_
  refine dw_o rfl (A_r rfl) ?_
  refine dw_o rfl (ok_fieldAddrS runUnderlying143 rfl sizeOf24 (by decide) (Nat.le_of_ble_eq_true rfl) rfl) ?_
  refine dw_o rfl (A_k runUnderlying24 rfl sizeOf3 rfl rfl) ?_
  refine dw_o rfl (A_Q ti3 rfl) ?_
  refine dw_o rfl (A_K rfl) ?_
  refine dw_o rfl (A_K rfl) ?_
  refine dw_o rfl (A_r rfl) ?_
  refine dw_o rfl (ok_fieldAddrS runUnderlying143 rfl sizeOf24 (by decide) (Nat.le_of_ble_eq_true rfl) rfl) ?_
  refine dw_o rfl (A_k runUnderlying24 rfl sizeOf3 rfl rfl) ?_
  refine dw_o rfl (A_Q ti3 rfl) ?_
  refine dw_o rfl (ok_rem rfl rfl (by omega) (by omega)) ?_
  refine dw_o rfl (ok_sub rfl rfl (by omega) (by omega)) ?_
  refine dw_o rfl (A_K rfl) ?_
  refine dw_o rfl (A_r rfl) ?_
  refine dw_o rfl (ok_fieldAddrS runUnderlying143 rfl sizeOf24 (by decide) (Nat.le_of_ble_eq_true rfl) rfl) ?_
  refine dw_o rfl (A_k runUnderlying24 rfl sizeOf3 rfl rfl) ?_
  refine dw_o rfl (A_Q ti3 rfl) ?_
  refine dw_o rfl (ok_rem rfl rfl (by omega) (by omega)) ?_
  refine dw_o rfl (A_K rfl) ?_
  refine dw_o rfl (ok_mul rfl rfl (by omega) (by omega)) ?_
  refine dw_o rfl (A_j rfl rfl (by omega) (by omega)) ?_
  refine dw_o rfl (ok_assign rfl) ?_
  refine dw_nil ?_
  refine enk K7 ?_
  refine esr rfl fun _ K8 => ?_
  refine A_A rfl (A_r rfl) ?_
  refine A_A rfl (ok_fieldAddrS runUnderlying143 rfl sizeOf24 (by decide) (Nat.le_of_ble_eq_true rfl) rfl) ?_
  refine A_A rfl (A_k runUnderlying24 rfl sizeOf3 rfl rfl) ?_
  refine A_A rfl (A_Q ti3 rfl) ?_
  refine A_A rfl (ok_mul rfl rfl (by omega) (by omega)) ?_
  refine emm rfl ?_
  refine enk K8 ?_
  refine A_E ?_
  refine emm rfl ?_
  refine A_A rfl (A_r rfl) ?_
  refine A_A rfl (ok_fieldAddrS runUnderlying143 rfl sizeOf24 (by decide) (Nat.le_of_ble_eq_true rfl) rfl) ?_
  refine A_A rfl (A_k runUnderlying24 rfl sizeOf3 rfl rfl) ?_
  refine A_A rfl (A_Q ti3 rfl) ?_
  refine A_A rfl (ok_quo rfl rfl (by omega) (by omega) (by omega)) ?_
  refine emm rfl ?_
  refine A_O ?_
  refine A_T (s := (u, t, pl, n)) (u / f.P, t + (((f.P - (u % f.P)) % f.P) * pl), pl * f.P, n - 1) ⟨(Int.ediv_nonneg u0 (by omega)), (Int.ediv_lt_of_lt_mul (by omega) (by rw [<- hpn]; exact u1)), (by omega), (by rw [Int.mul_assoc, Int.mul_comm f.P, <- hpn]; exact hwq), (by omega), (by rw [<- ht, hsu, Int.mul_add, <- Int.mul_assoc, Int.mul_comm pl ((f.P - u % f.P) % f.P)]; omega)⟩ (by first | omega | (dsimp only; omega)) (A_G ⟨rfl, rfl, rfl, rfl, trivial⟩ rfl)
 refine A_b ?_
 refine A_s K4 ?_
 refine esk rfl ?_
 refine A_S ?_
 exact retR1 (.inr rfl) results118 (A_N (A_W rfl (A_Z (by have hu : u = 0 := (by omega); rw [<- ht, hu, wneg_zero, Int.mul_zero]; omega))))

theorem Inv_ok (f : Fld) (x : Int) (hF : FOk f) : Ctr Try.prog 79 [aGF f, aInt x] (aTup [aInt (invF f x), aInt (if inF f x = 0 then 7 else 0)]) := by
 have hS := hF.1
 have hb := hS.bd
 have hix := inF_lt hS x
 have hE := hF.exp_good
 have hL := length_logsTo f (f.q - 1)
 change f.logs.length = _ at hL
 refine ctr_of Try.call79 func79 rfl rfl ?_
 intro w O
 refine ent_lenP 0 4 rfl rfl (fun hlen0_4 => ?_)
 refine ent_lenP 0 5 rfl rfl (fun hlen0_5 => ?_)
 refine esk rfl ?_
 refine esr rfl fun _ K2 => ?_
 refine A_A rfl (A_Y (in_ok f x) rfl) ?_
 refine emm rfl ?_
 refine enk K2 ?_
 refine A_C fun _ K3 => ?_
 refine esr rfl fun _ K4 => ?_
 refine A_A rfl (ok_eql rfl rfl) ?_
 refine enk K4 ?_
 refine A_F rfl (fun h10 => ?_) (fun h10 => ?_)
 ·refine esk rfl ?_
  refine A_S ?_
  exact retR2 (.inr rfl) results79 (A_N (A_W rfl (A_Z (by exact (invF_zero hF h10).symm)))) (A_N (A_W rfl (A_Z (by rw [if_pos h10]))))
 have hlx := hF.log (c := inF f x) (by omega) hix.2
 have hm := Int.emod_nonneg (f.q - 1 - ix 0 f.logs (inF f x)) (show f.q - 1 ≠ 0 by omega)
 have hm2 := Int.emod_lt_of_pos (f.q - 1 - ix 0 f.logs (inF f x)) (show 0 < f.q - 1 by omega)
 refine esp K3 ?_
 refine A_C fun _ K6 => ?_
 refine A_u 27 mixed (by kernel_rfl) (drawQ_F (by kernel_rfl)) (by kernel_rfl) ?_
 refine dw_o rfl (A_K rfl) ?_
 refine dw_o rfl (A_r rfl) ?_
 refine dw_o rfl (A_k runUnderlying143 rfl sizeOf22 rfl rfl) ?_
 refine dw_o rfl (A_Q ti22 rfl) ?_
 refine dw_o rfl (A_K rfl) ?_
 refine dw_o rfl (A_r rfl) ?_
 refine dw_o rfl (A_k runUnderlying143 rfl sizeOf3 rfl rfl) ?_
 refine dw_o rfl (A_Q ti3 rfl) ?_
 refine dw_o rfl (ok_sub rfl rfl (by omega) (by omega)) ?_
 refine dw_o rfl (A_K rfl) ?_
 refine dw_o rfl (A_r rfl) ?_
 refine dw_o rfl (A_k runUnderlying143 rfl sizeOf22 rfl rfl) ?_
 refine dw_o rfl (A_Q ti22 rfl) ?_
 refine dw_o rfl (A_K rfl) ?_
 refine dw_o rfl (A_X 0 sl22 rfl rfl (by omega) (by omega)) ?_
 refine dw_o rfl (A_Q ti3 rfl) ?_
 refine dw_o rfl (ok_sub rfl rfl (by omega) (by omega)) ?_
 refine dw_o rfl (A_K rfl) ?_
 refine dw_o rfl (A_r rfl) ?_
 refine dw_o rfl (A_k runUnderlying143 rfl sizeOf3 rfl rfl) ?_
 refine dw_o rfl (A_Q ti3 rfl) ?_
 refine dw_o rfl (ok_sub rfl rfl (by omega) (by omega)) ?_
 refine dw_o rfl (ok_rem rfl rfl (by omega) (by omega)) ?_
 refine dw_o rfl (A_X 0 sl22 rfl rfl (by omega) (by omega)) ?_
 refine dw_o rfl (A_Q ti3 rfl) ?_
 refine dw_o rfl (ok_assign rfl) ?_
 refine dw_o rfl (ok_assign rfl) ?_
 refine dw_nil ?_
 refine enk K6 ?_
 refine A_S ?_
 exact retR2 (.inr rfl) results79 (A_N (A_W rfl (A_Z (by exact (invF_exp hF h10).symm)))) (A_N (A_W rfl (A_Z (by rw [if_neg h10]))))

theorem Scale_ok (f : Fld) (a : Int) (v : List Int) (hF : FOk f) (hv : v.length <= 1000000) : CtrF Try.prog 116 [aGF f, aInt a, aSl 1 false aInt v] (aVec 3 1 false aInt (scaleF f a v)) := by
 refine ctrF_of Try.call116 func116 rfl rfl ?_
 intro w O
 refine ent_lenP 0 4 rfl rfl (fun hlen0_4 => ?_)
 refine ent_lenP 0 5 rfl rfl (fun hlen0_5 => ?_)
 refine ent_len 2 rfl (fun hlen2 => ?_)
 refine esk rfl ?_
 refine esr rfl fun _ K2 => ?_
 refine A_A rfl (A_l rfl runUnderlying22 rfl) ?_
 refine ent_make aInt 0 rfl vt22 rfl rfl (by omega) (by omega) (by omega) (fun _ _ => rfl) (AllV.mem ⟨rfl, trivial⟩) (fun b12_1 => ?_)
 refine emm rfl ?_
 refine enk K2 ?_
 refine A_C fun _ K3 => ?_
 refine esr rfl fun _ K4 => ?_
 refine A_A rfl (A_l rfl runUnderlying22 rfl) ?_
 refine emm rfl ?_
 refine enk K4 ?_
 refine A_H ?_
 refine A_a (fun (i : Int) => (⟨[(0, aGF f), (1, aInt a), (7, aEx (vec (some b12_1) (((↑v.length : Int)).toNat) (((↑v.length : Int)).toNat))), (13, aSl 1 false aInt v), (14, aInt (↑v.length : Int)), (15, aInt i)], [oVec (some b12_1) (((↑v.length : Int)).toNat) 3 1 false aInt (mixL (scaleF f a v) (List.replicate v.length 0) i)]⟩ : St)) (fun (i : Int) => (0 <= i) /\ (i <= v.length)) (fun (i : Int) => (v.length - i).toNat) 0 ⟨(by first | rfl | assumption | omega | (simp_all; done) | grind), (by first | rfl | assumption | omega | (simp_all; done) | grind)⟩ (A_G ⟨rfl, rfl, rfl, rfl, rfl, A_P (A_c (show 0 = (0 : Int) by first | rfl | assumption | omega | (simp_all; done) | grind)), trivial⟩ (A_J (A_g (show mixL (scaleF f a v) (List.replicate v.length 0) (0 : Int) = List.replicate (((↑v.length : Int)).toNat) 0 by first | exact mixL_zero _ _ | (rw [mixL_zero]; congr 1; omega))) (rfl))) ?_
 rintro i ⟨h0, h1⟩
 show Ent _ ⟨_, [_]⟩ _
 have lm : (mixL (scaleF f a v) (List.replicate v.length 0) i).length = v.length := by rw [length_mixL _ _ (by simp)]; simp
 refine esr rfl fun _ K5 => ?_
 refine A_A rfl (A_p rfl rfl) ?_
 refine enk K5 ?_
 refine A_C fun _ K6 => ?_
 refine A_F rfl (fun h16 => ?_) (fun h16 => ?_)
 ·refine esp K6 ?_
  refine A_C fun _ K7 => ?_
  refine A_H ?_
  refine esr rfl fun _ K8 => ?_
  refine A_A rfl (A_X 0 sl22 rfl rfl (by omega) (by omega)) ?_
  refine A_A rfl (A_Q ti3 rfl) ?_
  refine emm rfl ?_
  refine enk K8 ?_
  refine A_E ?_
  refine emm rfl ?_
  refine A_A rfl (A_Y (Mul_ok f a (ix 0 v i) (by first | rfl | assumption | omega | (simp_all; done) | grind)) rfl) ?_
  refine A_A rfl (A_n sl22 rfl rfl (by omega) (by omega)) ?_
  refine ent_storeV (k := 0) (z := mulF f a (ix 0 v i)) ti3 rfl rfl rfl (A_w (A_M _)) (by omega) (by omega) ?_
  refine enk K7 ?_
  refine A_E ?_
  refine A_A rfl (A_j rfl rfl (by omega) (by omega)) ?_
  refine emm rfl ?_
  refine A_O ?_
  refine A_T (s := (i)) (i + 1) ⟨(by first | rfl | assumption | omega | (simp_all; done) | grind), (by first | rfl | assumption | omega | (simp_all; done) | grind)⟩ (by first | omega | (dsimp only; omega)) (A_G ⟨rfl, rfl, rfl, rfl, rfl, rfl, trivial⟩ (A_J (A_g (show mixL (scaleF f a v) (List.replicate v.length 0) (i + 1) = List.set (mixL (scaleF f a v) (List.replicate v.length 0) i) (i).toNat (mulF f a (ix 0 v i)) by exact scaleF_set f a v h0 h16)) (rfl)))
 refine A_b ?_
 refine A_s K3 ?_
 refine esk rfl ?_
 refine A_S ?_
 exact retR1 (.inr rfl) results116 (A_N (A_W rfl (cvF_vecV (k := 0) flat_int rfl rfl (by first | rfl | assumption | (simp; done) | (simp_all; done) | omega) (by exact mixL_all _ _ (by simp; omega) (by simp; omega)))))

theorem rNeg_ok (f : Fld) (x : Int) (hS : Shape f) : Ctr Try.prog 145 [aFld f, aInt x] (aInt (negF f x)) := by
 have hb := hS.bd
 have hP := hS.pI
 have hN := hS.mN
 have lx := length_digS f.P f.M.toNat (inF f x)
 have ld := length_dneg f.P f.M.toNat (inF f x)
 refine ctr_of Try.call145 func145 rfl rfl ?_
 intro w O
 refine A_f 0 2 rfl rfl (fun hlen0_2 => ?_)
 refine esr rfl fun _ K1 => ?_
 refine A_o rfl rfl (AllOne.mem ⟨(A_M _), (A_M _), A_i, trivial⟩) (fun b2_1 => ?_)
 refine emm rfl ?_
 refine enk K1 ?_
 refine esr rfl fun _ K2 => ?_
 refine A_A rfl (A_V (k := 0) ti24 rfl rfl rfl) ?_
 refine emm rfl ?_
 refine ent_callV [] rfl (rDigits_ok f x (by first | rfl | assumption | omega | (simp_all; done) | grind)) (ArgsA.ok ⟨arg_a rfl (cv_id (sub_lent _)), arg_a rfl (cv_id (sub_lent _)), trivial⟩) (fun r9 c9 => ?_)
 refine ent_rsome 0 rfl (by omega) (fun b9_2 hb9_2 => ?_)
 subst hb9_2
 refine emm rfl ?_
 refine enk K2 ?_
 refine A_C fun _ K3 => ?_
 refine esk rfl ?_
 refine A_H ?_
 refine A_a (fun (i : Int) => (⟨[(2, aEx (.pointer (some ⟨b2_1, 0, none⟩))), (5, aEx (vec (some b9_2) ((digS f.P f.M.toNat (inF f x)).length) c9)), (6, aInt i)], [oVec (some b9_2) c9 3 1 false aInt (mixL (dneg f.P f.M.toNat (inF f x)) (digS f.P f.M.toNat (inF f x)) i), oBox b2_1 24 [aInt f.P, aInt f.M, aSl 1 false aInt f.mod]]⟩ : St)) (fun (i : Int) => (0 <= i) /\ (i <= f.M)) (fun (i : Int) => (f.M - i).toNat) 0 ⟨(by first | rfl | assumption | omega | (simp_all; done) | grind), (by first | rfl | assumption | omega | (simp_all; done) | grind)⟩ (A_G ⟨rfl, rfl, A_P (A_c (show 0 = (0 : Int) by first | rfl | assumption | omega | (simp_all; done) | grind)), trivial⟩ (A_J (A_g (show mixL (dneg f.P f.M.toNat (inF f x)) (digS f.P f.M.toNat (inF f x)) (0 : Int) = digS f.P f.M.toNat (inF f x) by exact mixL_zero _ _)) (rfl))) ?_
 rintro i ⟨h0, h1⟩
 show Ent _ ⟨_, [_, _]⟩ _
 have lm := length_mixL (dneg f.P f.M.toNat (inF f x)) (digS f.P f.M.toNat (inF f x)) (i := i) (by omega)
 refine A_C fun _ K5 => ?_
 refine esr rfl fun _ K6 => ?_
 refine A_A rfl (ok_lenEx rfl runUnderlying22 rfl) ?_
 refine A_A rfl (A_p rfl rfl) ?_
 refine enk K6 ?_
 refine A_F rfl (fun h13 => ?_) (fun h13 => ?_)
 ·have hdx := hS.dig_ix (inF f x) h0 (show i < f.M by omega)
  have hmi := ix_mixL (dneg f.P f.M.toNat (inF f x)) (digS f.P f.M.toNat (inF f x)) h0 (by omega) (by omega)
  have hvv : (f.P - ix 0 (mixL (dneg f.P f.M.toNat (inF f x)) (digS f.P f.M.toNat (inF f x)) i) i) % f.P = ix 0 (dneg f.P f.M.toNat (inF f x)) i := by rw [hmi]; exact (ix_dneg f.P _ _ h0 (by omega)).symm
  refine esp K5 ?_
  refine A_C fun _ K7 => ?_
  refine A_H ?_
  refine A_u 13 mixed (by kernel_rfl) (by kernel_rfl) (by kernel_rfl) ?_
  refine dw_o rfl (A_K rfl) ?_
  refine dw_o rfl (A_K rfl) ?_
  refine dw_o rfl (A_B runUnderlying24 rfl sizeOf3 (by decide) rfl) ?_
  refine dw_o rfl (A_L (k := 1) isAgg3 rfl rfl rfl) ?_
  refine dw_o rfl (A_K rfl) ?_
  refine dw_o rfl (A_K rfl) ?_
  refine dw_o rfl (A_n sl22 rfl rfl (by omega) (by omega)) ?_
  refine dw_o rfl (ok_loadV (k := 0) 0 ti3 rfl rfl (by omega) (by omega)) ?_
  refine dw_o rfl (ok_sub rfl rfl (by omega) (by omega)) ?_
  refine dw_o rfl (A_B runUnderlying24 rfl sizeOf3 (by decide) rfl) ?_
  refine dw_o rfl (A_L (k := 1) isAgg3 rfl rfl rfl) ?_
  refine dw_o rfl (ok_rem rfl rfl (by omega) (by omega)) ?_
  refine dw_o rfl (A_n sl22 rfl rfl (by omega) (by omega)) ?_
  refine dw_nil ?_
  refine ent_storeV (k := 0) (z := (f.P - (ix 0 (mixL (dneg f.P f.M.toNat (inF f x)) (digS f.P f.M.toNat (inF f x)) i) i)) % f.P) ti3 rfl rfl rfl (A_w (A_M _)) (by omega) (by omega) ?_
  refine enk K7 ?_
  refine A_E ?_
  refine emm rfl ?_
  refine A_A rfl (A_j rfl rfl (by omega) (by omega)) ?_
  refine emm rfl ?_
  refine A_O ?_
  refine A_T (s := (i)) (i + 1) ⟨(by first | rfl | assumption | omega | (simp_all; done) | grind), (by first | rfl | assumption | omega | (simp_all; done) | grind)⟩ (by first | omega | (dsimp only; omega)) (A_G ⟨rfl, rfl, rfl, trivial⟩ (A_J (A_g (show mixL (dneg f.P f.M.toNat (inF f x)) (digS f.P f.M.toNat (inF f x)) (i + 1) = List.set (mixL (dneg f.P f.M.toNat (inF f x)) (digS f.P f.M.toNat (inF f x)) i) (i).toNat ((f.P - (ix 0 (mixL (dneg f.P f.M.toNat (inF f x)) (digS f.P f.M.toNat (inF f x)) i) i)) % f.P) by exact (mixL_set _ _ h0 (by omega) (by omega) hvv).symm)) (rfl)))
 have hme := mixL_all (dneg f.P f.M.toNat (inF f x)) (digS f.P f.M.toNat (inF f x)) (i := i) (by omega) (by omega)
 have hdm : ∀ c ∈ dneg f.P f.M.toNat (inF f x), 0 <= c /\ c < f.P := dneg_mem f.P hb.1 _ _
 have hdl : f.P ^ (dneg f.P f.M.toNat (inF f x)).length <= 256 := by rw [ld]; omega
 rw [<- hme] at hdm hdl
 refine A_b ?_
 refine A_s K3 ?_
 refine esr rfl fun _ K8 => ?_
 refine A_A rfl (A_V (k := 1) ti24 rfl rfl rfl) ?_
 refine emm rfl ?_
 refine A_A rfl (ok_callP [0] (by exact pl_ex) (rValue_ok f (mixL (dneg f.P f.M.toNat (inF f x)) (digS f.P f.M.toNat (inF f x)) i) (by first | rfl | assumption | omega | (simp_all; done) | grind) (by first | rfl | assumption | omega | (simp_all; done) | grind) (by first | rfl | assumption | omega | (simp_all; done) | grind)) ⟨arg_a rfl (cv_id (sub_lent _)), arg_a rfl (cv_vec (k := 0) (off_lent rfl (by decide)) (by first | rfl | assumption | (simp; done) | (simp_all; done) | omega) (by first | rfl | assumption | omega | (simp_all; done) | grind)), trivial⟩) ?_
 refine emm rfl ?_
 refine enk K8 ?_
 refine A_S ?_
 exact retR1 (.inr rfl) results145 (A_N (A_W rfl (A_Z (by rw [hme, valS_dneg]; exact (hS.negc_wneg _).symm))))

theorem rInv_ok (f : Fld) (x : Int) (hF : FOk f) : Ctr Try.prog 135 [aFld f, aInt x] (aInt (invF f x)) := by
 have hS := hF.1
 have hb := hS.bd
 refine ctr_of Try.call135 func135 rfl rfl ?_
 intro w O
 refine A_f 0 2 rfl rfl (fun hlen0_2 => ?_)
 refine esr rfl fun _ K1 => ?_
 refine A_o rfl rfl (AllOne.mem ⟨(A_M _), (A_M _), A_i, trivial⟩) (fun b2_1 => ?_)
 refine emm rfl ?_
 refine enk K1 ?_
 refine A_C fun _ K2 => ?_
 refine esk rfl ?_
 refine A_H ?_
 refine A_a (fun (y : Int) => (⟨[(1, aInt x), (2, aEx (.pointer (some ⟨b2_1, 0, none⟩))), (5, aInt y)], [oBox b2_1 24 [aInt f.P, aInt f.M, aSl 1 false aInt f.mod]]⟩ : St)) (fun (y : Int) => (1 <= y) /\ (y <= f.q) /\ (∀ z : Int, 1 <= z -> z < y -> mulF f x z ≠ 1)) (fun (y : Int) => (f.q - y).toNat) 1 ⟨(by first | rfl | assumption | omega | (simp_all; done) | grind), (by first | rfl | assumption | omega | (simp_all; done) | grind), (fun z z0 z1 => by omega)⟩ (A_G ⟨rfl, rfl, A_P (A_c (show 1 = (1 : Int) by first | rfl | assumption | omega | (simp_all; done) | grind)), trivial⟩ rfl) ?_
 rintro y ⟨h0, h1, hn⟩
 show Ent _ ⟨_, [_]⟩ _
 refine A_C fun _ K4 => ?_
 refine esr rfl fun _ K5 => ?_
 refine A_A rfl (A_V (k := 0) ti24 rfl rfl rfl) ?_
 refine A_A rfl (A_Y (rOrder_ok f) rfl) ?_
 refine A_A rfl (A_p rfl rfl) ?_
 refine enk K5 ?_
 refine A_F rfl (fun h9 => ?_) (fun h9 => ?_)
 ·refine esp K4 ?_
  refine A_C fun _ K6 => ?_
  refine A_H ?_
  refine esr rfl fun _ K7 => ?_
  refine A_A rfl (A_V (k := 0) ti24 rfl rfl rfl) ?_
  refine emm rfl ?_
  refine A_A rfl (A_Y (rMul_ok f x y (by first | rfl | assumption | omega | (simp_all; done) | grind)) rfl) ?_
  refine A_A rfl (ok_eql rfl rfl) ?_
  refine enk K7 ?_
  refine A_F rfl (fun h16 => ?_) (fun h16 => ?_)
  ·refine esk rfl ?_
   refine A_S ?_
   exact retR1 (.inr rfl) results135 (A_N (A_W rfl (A_Z (by exact invF_uniq hF h0 h9 h16))))
  refine esp K6 ?_
  refine A_E ?_
  refine emm rfl ?_
  refine A_A rfl (A_j rfl rfl (by omega) (by omega)) ?_
  refine emm rfl ?_
  refine A_O ?_
  refine A_T (s := (y)) (y + 1) ⟨(by first | rfl | assumption | omega | (simp_all; done) | grind), (by first | rfl | assumption | omega | (simp_all; done) | grind), (fun z z0 z1 => by by_cases hz : z = y; (rw [hz]; exact h16); exact hn z z0 (by omega))⟩ (by first | omega | (dsimp only; omega)) (A_G ⟨rfl, rfl, rfl, trivial⟩ rfl)
 refine A_b ?_
 refine A_s K2 ?_
 refine esk rfl ?_
 refine A_S ?_
 exact retR1 (.inr rfl) results135 (A_N (A_W rfl (A_Z (by exact (invF_none hF (fun z z0 z1 => hn z z0 (by omega))).symm))))

theorem rscale_ok (f : Fld) (a : Int) (v : List Int) (hS : Shape f) (hv : v.length <= 1000000) : CtrF Try.prog 155 [aFld f, aInt a, aSl 1 false aInt v] (aVec 3 1 false aInt (scaleF f a v)) := by
 refine ctrF_of Try.call155 func155 rfl rfl ?_
 intro w O
 refine A_f 0 2 rfl rfl (fun hlen0_2 => ?_)
 refine ent_len 2 rfl (fun hlen2 => ?_)
 refine esr rfl fun _ K1 => ?_
 refine A_o rfl rfl (AllOne.mem ⟨(A_M _), (A_M _), A_i, trivial⟩) (fun b3_1 => ?_)
 refine emm rfl ?_
 refine enk K1 ?_
 refine esr rfl fun _ K2 => ?_
 refine A_A rfl (A_l rfl runUnderlying22 rfl) ?_
 refine ent_make aInt 0 rfl vt22 rfl rfl (by omega) (by omega) (by omega) (fun _ _ => rfl) (AllV.mem ⟨rfl, trivial⟩) (fun b11_2 => ?_)
 refine emm rfl ?_
 refine enk K2 ?_
 refine A_C fun _ K3 => ?_
 refine esk rfl ?_
 refine A_H ?_
 refine A_a (fun (i : Int) => (⟨[(1, aInt a), (2, aSl 1 false aInt v), (3, aEx (.pointer (some ⟨b3_1, 0, none⟩))), (7, aEx (vec (some b11_2) (((↑v.length : Int)).toNat) (((↑v.length : Int)).toNat))), (8, aInt i)], [oVec (some b11_2) (((↑v.length : Int)).toNat) 3 1 false aInt (mixL (scaleF f a v) (List.replicate v.length 0) i), oBox b3_1 24 [aInt f.P, aInt f.M, aSl 1 false aInt f.mod]]⟩ : St)) (fun (i : Int) => (0 <= i) /\ (i <= v.length)) (fun (i : Int) => (v.length - i).toNat) 0 ⟨(by first | rfl | assumption | omega | (simp_all; done) | grind), (by first | rfl | assumption | omega | (simp_all; done) | grind)⟩ (A_G ⟨rfl, rfl, rfl, rfl, A_P (A_c (show 0 = (0 : Int) by first | rfl | assumption | omega | (simp_all; done) | grind)), trivial⟩ (A_J (A_g (show mixL (scaleF f a v) (List.replicate v.length 0) (0 : Int) = List.replicate (((↑v.length : Int)).toNat) 0 by first | exact mixL_zero _ _ | (rw [mixL_zero]; congr 1; omega))) (rfl))) ?_
 rintro i ⟨h0, h1⟩
 show Ent _ ⟨_, [_, _]⟩ _
 have lm : (mixL (scaleF f a v) (List.replicate v.length 0) i).length = v.length := by rw [length_mixL _ _ (by simp)]; simp
 refine A_C fun _ K5 => ?_
 refine esr rfl fun _ K6 => ?_
 refine A_A rfl (A_l rfl runUnderlying22 rfl) ?_
 refine A_A rfl (A_p rfl rfl) ?_
 refine enk K6 ?_
 refine A_F rfl (fun h15 => ?_) (fun h15 => ?_)
 ·refine esp K5 ?_
  refine A_C fun _ K7 => ?_
  refine A_H ?_
  refine A_u 10 mixed (by kernel_rfl) (by kernel_rfl) (by kernel_rfl) ?_
  refine dw_o rfl (A_K rfl) ?_
  refine dw_o rfl (A_K rfl) ?_
  refine dw_o rfl (A_V (k := 1) ti24 rfl rfl rfl) ?_
  refine dw_o rfl (A_K rfl) ?_
  refine dw_o rfl (A_K rfl) ?_
  refine dw_o rfl (A_K rfl) ?_
  refine dw_o rfl (A_X 0 sl22 rfl rfl (by omega) (by omega)) ?_
  refine dw_o rfl (A_Q ti3 rfl) ?_
  refine dw_o rfl (A_Y (rMul_ok f a (ix 0 v i) (by first | rfl | assumption | omega | (simp_all; done) | grind)) rfl) ?_
  refine dw_o rfl (A_n sl22 rfl rfl (by omega) (by omega)) ?_
  refine dw_nil ?_
  refine ent_storeV (k := 0) (z := mulF f a (ix 0 v i)) ti3 rfl rfl rfl (A_w (A_M _)) (by omega) (by omega) ?_
  refine enk K7 ?_
  refine A_E ?_
  refine emm rfl ?_
  refine A_A rfl (A_j rfl rfl (by omega) (by omega)) ?_
  refine emm rfl ?_
  refine A_O ?_
  refine A_T (s := (i)) (i + 1) ⟨(by first | rfl | assumption | omega | (simp_all; done) | grind), (by first | rfl | assumption | omega | (simp_all; done) | grind)⟩ (by first | omega | (dsimp only; omega)) (A_G ⟨rfl, rfl, rfl, rfl, rfl, trivial⟩ (A_J (A_g (show mixL (scaleF f a v) (List.replicate v.length 0) (i + 1) = List.set (mixL (scaleF f a v) (List.replicate v.length 0) i) (i).toNat (mulF f a (ix 0 v i)) by exact scaleF_set f a v h0 h15)) (rfl)))
 refine A_b ?_
 refine A_s K3 ?_
 refine esk rfl ?_
 refine A_S ?_
 exact retR1 (.inr rfl) results155 (A_N (A_W rfl (cvF_vecV (k := 0) flat_int rfl rfl (by first | rfl | assumption | (simp; done) | (simp_all; done) | omega) (by exact mixL_all _ _ (by simp; omega) (by simp; omega)))))

theorem Clone_ok (l : List Int) (hl : l.length <= 1000000) : CtrN Try.prog 161 [aSl 1 false aInt l] 3 1 false aInt l := by
 refine ctrN_of Try.call161 func161 rfl rfl ?_
 intro w O
 refine ent_len 0 rfl (fun hlen0 => ?_)
 refine esk rfl ?_
 refine A_C fun _ K2 => ?_
 refine esr rfl fun _ K3 => ?_
 refine A_A rfl (ok_eqlNilIf underlying22 rfl) ?_
 refine enk K3 ?_
 refine ent_condIf rfl (fun h4 => ?_) ?_
 ·refine esk rfl ?_
  refine A_S ?_
  exact retN_nil (.inr rfl) results161 rfl (fun _ => rfl) (by first | exact h4.symm | rfl | simp)
 refine esp K2 ?_
 refine esr rfl fun _ K5 => ?_
 refine ent_buildN aInt [] rfl vt22 (by decide) (rfl) rfl (fun b5_1 => ?_)
 refine emm rfl ?_
 refine ent_appendS (k := 0) rfl vt22 rfl rfl (by first | rfl | assumption | (simp; done) | (simp_all; done) | omega) rfl (cv_id sub_refl) (by first | omega | (simp only [List.length_append, List.length_cons, List.length_nil]; omega) | (simp; omega)) (by first | omega | (simp only [List.length_append, List.length_cons, List.length_nil]; omega) | (simp; omega)) (fun r7_1 cr7_1 => ?_)
 refine emm rfl ?_
 refine enk K5 ?_
 refine A_S ?_
 exact retN (k := 0) (.inr rfl) results161 rfl rfl (by first | rfl | assumption | (simp; done) | (simp_all; done) | omega) (by first | rfl | assumption | omega | (simp_all; done) | grind)

theorem clone_ok (l : List (List Int)) (hl : l.length <= 1000000) (hr : ∀ x ∈ l, x.length <= 1000000) : CtrW Try.prog 159 [] [aSl 1 false aInts l] (fun (y : Option Nat × Nat × List Hdr) => match y with | (r, c, Hs) => Hs.length = l.length) (fun (y : Option Nat × Nat × List Hdr) => match y with | (r, c, Hs) => aEx (vec r Hs.length c)) (fun (y : Option Nat × Nat × List Hdr) => match y with | (r, c, Hs) => [oVec r c 22 1 false aH Hs, oRws 3 aInt [] Hs l]) := by
 refine ctrW_of Try.call159 func159 rfl rfl ?_
 intro w O
 refine ent_len 0 rfl (fun hlen0 => ?_)
 refine esk rfl ?_
 refine esr rfl fun _ K2 => ?_
 refine A_A rfl (A_l rfl runUnderlying42 rfl) ?_
 refine ent_make aH Hdr.no rfl vt42 rfl rfl (by omega) (by omega) (by omega) (fun _ _ => rfl) (AllV.mem ⟨rfl, trivial⟩) (fun b8_1 => ?_)
 refine ent_rowsN 3 aInt (((↑l.length : Int)).toNat) ?_
 refine emm rfl ?_
 refine enk K2 ?_
 refine A_C fun _ K3 => ?_
 refine esr rfl fun _ K4 => ?_
 refine A_A rfl (A_l rfl runUnderlying42 rfl) ?_
 refine emm rfl ?_
 refine enk K4 ?_
 refine A_H ?_
 refine A_a (fun (ss : Int × List Hdr) => match ss with | (i, Hs) => (⟨[(3, aEx (vec (some b8_1) (((↑l.length : Int)).toNat) (((↑l.length : Int)).toNat))), (9, aSl 1 false aInts l), (10, aInt (↑l.length : Int)), (11, aInt i)], [oRws 3 aInt [] Hs (mixG l (List.replicate l.length []) i), oVec (some b8_1) (((↑l.length : Int)).toNat) 22 1 false aH Hs]⟩ : St)) (fun (ss : Int × List Hdr) => match ss with | (i, Hs) => (0 <= i) /\ (i <= l.length) /\ (Hs.length = l.length)) (fun (ss : Int × List Hdr) => match ss with | (i, Hs) => (l.length - i).toNat) (0, List.replicate (((↑l.length : Int)).toNat) Hdr.no) ⟨(by first | rfl | assumption | omega | (simp_all; done) | grind), (by first | rfl | assumption | omega | (simp_all; done) | grind), (by simp)⟩ (A_G ⟨rfl, rfl, rfl, A_P (A_c (show 0 = (0 : Int) by first | rfl | assumption | omega | (simp_all; done) | grind)), trivial⟩ (A_J (own_rws (show (List.replicate (((↑l.length : Int)).toNat) Hdr.no) = List.replicate (((↑l.length : Int)).toNat) Hdr.no by first | rfl | assumption | omega | (simp_all; done) | grind) (show mixG l (List.replicate l.length []) (0 : Int) = List.replicate (((↑l.length : Int)).toNat) [] by first | exact mixG_zero _ _ | (rw [mixG_zero]; congr 1; omega))) (rfl))) ?_
 rintro ⟨i, Hs⟩ ⟨h0, h1, hH⟩
 show Ent _ ⟨_, [_, _]⟩ _
 refine esr rfl fun _ K5 => ?_
 refine A_A rfl (A_p rfl rfl) ?_
 refine enk K5 ?_
 refine A_C fun _ K6 => ?_
 refine A_F rfl (fun h12 => ?_) (fun h12 => ?_)
 ·refine esp K6 ?_
  refine A_C fun _ K7 => ?_
  refine A_H ?_
  refine esr rfl fun _ K8 => ?_
  refine A_A rfl (A_X [] sl42 rfl rfl (by omega) (by omega)) ?_
  refine A_A rfl (A_Q ti22 rfl) ?_
  refine emm rfl ?_
  refine enk K8 ?_
  refine A_E ?_
  refine emm rfl ?_
  refine ent_callN rfl (Clone_ok (ix [] l i) (hr _ (ix_mem [] l h0 h12))) (ArgsA.ok ⟨arg_a rfl (cv_id (sub_lent _)), trivial⟩) (fun r19 c19 => ?_)
  refine A_A rfl (A_n sl42 rfl rfl (by omega) (by omega)) ?_
  refine ent_storeV (k := 2) (z := ⟨r19, ((ix [] l i)).length, c19⟩) ti22 rfl rfl rfl (A_w (one_ex rfl)) (by omega) (by omega) ?_
  refine ent_putRow 1 0 i (m := ((ix [] l i)).length) [] rfl rfl (by decide) (by simp) (by first | rfl | assumption | (simp; done) | (simp_all; done) | omega) ?_
  refine enk K7 ?_
  refine A_E ?_
  refine A_A rfl (A_j rfl rfl (by omega) (by omega)) ?_
  refine emm rfl ?_
  refine A_O ?_
  refine A_T (s := (i, Hs)) (i + 1, List.set Hs (i).toNat ⟨r19, ((ix [] l i)).length, c19⟩) ⟨(by first | rfl | assumption | omega | (simp_all; done) | grind), (by first | rfl | assumption | omega | (simp_all; done) | grind), (by simp; exact hH)⟩ (by first | omega | (dsimp only; omega)) (A_G ⟨rfl, rfl, rfl, rfl, trivial⟩ (A_J (own_rws (show (List.set Hs (i).toNat ⟨r19, ((ix [] l i)).length, c19⟩) = List.set Hs (i).toNat ⟨r19, ((ix [] l i)).length, c19⟩ by first | rfl | assumption | omega | (simp_all; done) | grind) (show mixG l (List.replicate l.length []) (i + 1) = List.set (mixG l (List.replicate l.length []) i) (i).toNat (ix [] l i) by exact mixG_set [] l _ h0 h12 (by simp))) (A_J (A_g (show (List.set Hs (i).toNat ⟨r19, ((ix [] l i)).length, c19⟩) = List.set Hs (i).toNat (⟨r19, ((ix [] l i)).length, c19⟩) by first | rfl | assumption | omega | (simp_all; done) | grind)) (rfl))))
 refine A_b ?_
 refine A_s K3 ?_
 refine esk rfl ?_
 refine A_S ?_
 refine ent_pm 2 [0, 1] rfl (by decide) rfl ?_
 exact retW (.inr rfl) ((some b8_1), ((↑l.length : Int)).toNat, Hs) (hH) ((show ([oVec (some b8_1) (((↑l.length : Int)).toNat) 22 1 false aH Hs, oRws 3 aInt [] Hs l] : List Own) = [oVec (some b8_1) (((↑l.length : Int)).toNat) 22 1 false aH Hs, oRws 3 aInt [] Hs (mixG l (List.replicate l.length []) i)] from (A_J (rfl) (A_J (own_rws rfl (show l = mixG l (List.replicate l.length []) i by exact (mixG_all _ _ (by omega) (by simp)).symm)) (rfl)))).symm) (resW1 results159 (A_N (A_W rfl (cv_ex (show vec (some b8_1) (((↑l.length : Int)).toNat) (((↑l.length : Int)).toNat) = vec (some b8_1) Hs.length (((↑l.length : Int)).toNat) by first | rfl | (congr 1 <;> first | omega | (simp; done) | (simp; omega)) | simp_all)))))
end Go.Proofs.Ytfjhbdfgbpcchaa

