/-
  Walks of functions of the program and the reference.
-/
import Derived.Test.YtfjhbdfgbpcchaaU10
open Go Go.Cw
namespace Go.Proofs.Ytfjhbdfgbpcchaa
open Try
set_option maxRecDepth 100000
set_option linter.unusedVariables false
set_option linter.unusedSimpArgs false
theorem Neg_ok (f : Fld) (x : Int) (hF : FOk f) : Ctr Try.prog 118 [aGF f, aInt x] (aInt (negF f x)) := by
 have hS := hF.1
 have hb := hS.bd
 have hix := inF_lt hS x
 have hsl := hS.negF_lt x
 have hw : negF f x = wneg f.P f.M.toNat (inF f x) := hS.negc_wneg _
 refine ctr_of Try.call118 func118 rfl rfl ?_
 intro w O
 refine ent_lenP 0 4 rfl rfl (fun hlen0_4 => ?_)
 refine ent_lenP 0 5 rfl rfl (fun hlen0_5 => ?_)
 refine esk rfl ?_
 refine esr rfl fun _ K2 => ?_
 refine ent_o rfl (ok_call (in_ok f x) rfl) ?_
 refine emm rfl ?_
 refine enk K2 ?_
 refine esk rfl ?_
 refine ent_seq fun _ K4 => ?_
 refine ent_block ?_
 refine ent_loop (fun (ss : Int × Int × Int × Nat) => match ss with | (u, t, pl, n) => (⟨[(0, aGF f), (1, aInt u), (5, aInt t), (6, aInt pl)], []⟩ : St)) (fun (ss : Int × Int × Int × Nat) => match ss with | (u, t, pl, n) => (0 ≤ u) ∧ (u < f.P ^ n) ∧ (1 ≤ pl) ∧ (pl * f.P ^ n = f.q) ∧ (0 ≤ t) ∧ (t + pl * wneg f.P n u = negF f x)) (fun (ss : Int × Int × Int × Nat) => match ss with | (u, t, pl, n) => n) (inF f x, 0, 1, f.M.toNat) ⟨(by omega), (by omega), (by omega), (by omega), (by omega), (by rw [hw]; omega)⟩ (ent_rep ⟨rfl, rfl, slot_av (av_int (show 0 = (0 : Int) by rfl)), slot_av (av_int (show 1 = (1 : Int) by rfl)), trivial⟩ rfl) ?_
 rintro ⟨u, t, pl, n⟩ ⟨u0, u1, w0, hwq, t0, ht⟩
 show Ent _ ⟨_, []⟩ _
 refine ent_seq fun _ K5 => ?_
 refine esr rfl fun _ K6 => ?_
 refine ent_o rfl (ok_gtr rfl rfl) ?_
 refine enk K6 ?_
 refine ent_condD rfl (fun h11 => ?_) (fun h11 => ?_)
 ·have hn : 1 ≤ n := by
   by_cases hn0 : n = 0
   ·subst hn0; simp at u1; omega
   omega
  have hpn : f.P ^ n = f.P ^ (n - 1) * f.P := by conv => lhs; rw [show n = n - 1 + 1 by omega, Int.pow_succ]
  have hpp := pow_pos_of f.P hb.1 n
  have hpp1 := pow_pos_of f.P hb.1 (n - 1)
  have hsu := wneg_succ f.P hn u
  have hwl : pl ≤ f.q := by have := Int.mul_le_mul_of_nonneg_left hpp (show 0 ≤ pl by omega); omega
  have hwp : pl * f.P ≤ f.q := by rw [← hwq, hpn]; have := Int.mul_le_mul_of_nonneg_left hpp1 (show 0 ≤ pl * f.P by exact Int.mul_nonneg (by omega) (by omega)); rw [Int.mul_one, Int.mul_assoc, Int.mul_comm f.P] at this; exact this
  have hwp1 : pl ≤ pl * f.P := by have := Int.mul_le_mul_of_nonneg_left (show (1 : Int) ≤ f.P by omega) (show 0 ≤ pl by omega); omega
  have hd0 := Int.emod_nonneg u (show f.P ≠ 0 by omega)
  have hd1 := Int.emod_lt_of_pos u (show 0 < f.P by omega)
  have hd4 := Int.emod_nonneg (f.P - u % f.P) (show f.P ≠ 0 by omega)
  have hd5 := Int.emod_lt_of_pos (f.P - u % f.P) (show 0 < f.P by omega)
  have hm := mul_small hd4 (by omega) (show 0 ≤ pl by omega) (by omega)
  have hwn := wneg_nonneg f.P hb.1 n u
  have htl : t ≤ 256 := by have := Int.mul_nonneg (show 0 ≤ pl by omega) hwn; omega
  have hul : u ≤ 256 := by have := pow_le_q hwq w0 hpp; omega
  refine esp K5 ?_
  refine ent_block ?_
  refine ent_seq fun _ K7 => ?_
  refine ent_draw 24 mixed (by kernel_rfl) (by kernel_rfl) (by kernel_rfl) ?_
  refine dw_o rfl (ok_move rfl) ?_
  refine dw_o rfl (ok_move rfl) ?_
  refine dw_o rfl (ok_nilCheck rfl) ?_
  refine dw_o rfl (ok_fieldAddrS runUnderlying143 rfl sizeOf24 (by decide) (Nat.le_of_ble_eq_true rfl) rfl) ?_
  refine dw_o rfl (ok_fieldAddr1 runUnderlying24 rfl sizeOf3 rfl rfl) ?_
  refine dw_o rfl (ok_load ti3 rfl) ?_
  refine dw_o rfl (ok_move rfl) ?_
  refine dw_o rfl (ok_move rfl) ?_
  refine dw_o rfl (ok_nilCheck rfl) ?_
  refine dw_o rfl (ok_fieldAddrS runUnderlying143 rfl sizeOf24 (by decide) (Nat.le_of_ble_eq_true rfl) rfl) ?_
  refine dw_o rfl (ok_fieldAddr1 runUnderlying24 rfl sizeOf3 rfl rfl) ?_
  refine dw_o rfl (ok_load ti3 rfl) ?_
  refine dw_o rfl (ok_rem rfl rfl (by omega) (by omega)) ?_
  refine dw_o rfl (ok_sub rfl rfl (by omega) (by omega)) ?_
  refine dw_o rfl (ok_move rfl) ?_
  refine dw_o rfl (ok_nilCheck rfl) ?_
  refine dw_o rfl (ok_fieldAddrS runUnderlying143 rfl sizeOf24 (by decide) (Nat.le_of_ble_eq_true rfl) rfl) ?_
  refine dw_o rfl (ok_fieldAddr1 runUnderlying24 rfl sizeOf3 rfl rfl) ?_
  refine dw_o rfl (ok_load ti3 rfl) ?_
  refine dw_o rfl (ok_rem rfl rfl (by omega) (by omega)) ?_
  refine dw_o rfl (ok_move rfl) ?_
  refine dw_o rfl (ok_mul rfl rfl (by omega) (by omega)) ?_
  refine dw_o rfl (ok_add rfl rfl (by omega) (by omega)) ?_
  refine dw_o rfl (ok_assign rfl) ?_
  refine dw_nil ?_
  refine enk K7 ?_
  refine esr rfl fun _ K8 => ?_
  refine ent_o rfl (ok_nilCheck rfl) ?_
  refine ent_o rfl (ok_fieldAddrS runUnderlying143 rfl sizeOf24 (by decide) (Nat.le_of_ble_eq_true rfl) rfl) ?_
  refine ent_o rfl (ok_fieldAddr1 runUnderlying24 rfl sizeOf3 rfl rfl) ?_
  refine ent_o rfl (ok_load ti3 rfl) ?_
  refine ent_o rfl (ok_mul rfl rfl (by omega) (by omega)) ?_
  refine emm rfl ?_
  refine enk K8 ?_
  refine ent_region ?_
  refine emm rfl ?_
  refine ent_o rfl (ok_nilCheck rfl) ?_
  refine ent_o rfl (ok_fieldAddrS runUnderlying143 rfl sizeOf24 (by decide) (Nat.le_of_ble_eq_true rfl) rfl) ?_
  refine ent_o rfl (ok_fieldAddr1 runUnderlying24 rfl sizeOf3 rfl rfl) ?_
  refine ent_o rfl (ok_load ti3 rfl) ?_
  refine ent_o rfl (ok_quo rfl rfl (by omega) (by omega) (by omega)) ?_
  refine emm rfl ?_
  refine ent_nil ?_
  refine ent_again (s := (u, t, pl, n)) (u / f.P, t + (((f.P - (u % f.P)) % f.P) * pl), pl * f.P, n - 1) ⟨(Int.ediv_nonneg u0 (by omega)), (Int.ediv_lt_of_lt_mul (by omega) (by rw [← hpn]; exact u1)), (by omega), (by rw [Int.mul_assoc, Int.mul_comm f.P, ← hpn]; exact hwq), (by omega), (by rw [← ht, hsu, Int.mul_add, ← Int.mul_assoc, Int.mul_comm pl ((f.P - u % f.P) % f.P)]; omega)⟩ (by dsimp only; omega) (ent_rep ⟨rfl, rfl, rfl, rfl, trivial⟩ rfl)
 refine ent_exit ?_
 refine ent_k K4 ?_
 refine esk rfl ?_
 refine ent_ret ?_
 exact retR1 (.inr rfl) results118 (resr_tmp (res_cv rfl (cv_int (by have hu : u = 0 := (by omega); rw [← ht, hu, wneg_zero, Int.mul_zero]; omega))))

theorem Inv_ok (f : Fld) (x : Int) (hF : FOk f) : Ctr Try.prog 79 [aGF f, aInt x] (aTup [aInt (invF f x), aInt (if inF f x = 0 then 7 else 0)]) := by
 have hS := hF.1
 have hb := hS.bd
 have hix := inF_lt hS x
 have hE := hF.exp_good
 have hL := length_logsTo f (f.q - 1)
 change f.logs.length = _ at hL
 refine ctr_of Try.call79 func79 rfl rfl ?_
 intro w O
 refine ent_lenP 0 4 rfl rfl (fun hlen0_4 => ?_)
 refine ent_lenP 0 5 rfl rfl (fun hlen0_5 => ?_)
 refine esk rfl ?_
 refine esr rfl fun _ K2 => ?_
 refine ent_o rfl (ok_call (in_ok f x) rfl) ?_
 refine emm rfl ?_
 refine enk K2 ?_
 refine ent_seq fun _ K3 => ?_
 refine esr rfl fun _ K4 => ?_
 refine ent_o rfl (ok_eql rfl rfl) ?_
 refine enk K4 ?_
 refine ent_condD rfl (fun h10 => ?_) (fun h10 => ?_)
 ·refine esk rfl ?_
  refine ent_ret ?_
  exact retR2 (.inr rfl) results79 (resr_tmp (res_cv rfl (cv_int (by exact (invF_zero hF h10).symm)))) (resr_tmp (res_cv rfl (cv_int (by rw [if_pos h10]))))
 have hlx := hF.log (c := inF f x) (by omega) hix.2
 have hm := Int.emod_nonneg (f.q - 1 - ix 0 f.logs (inF f x)) (show f.q - 1 ≠ 0 by omega)
 have hm2 := Int.emod_lt_of_pos (f.q - 1 - ix 0 f.logs (inF f x)) (show 0 < f.q - 1 by omega)
 refine esp K3 ?_
 refine ent_seq fun _ K6 => ?_
 refine ent_draw 27 mixed (by kernel_rfl) (drawQ_F (by kernel_rfl)) (by kernel_rfl) ?_
 refine dw_o rfl (ok_move rfl) ?_
 refine dw_o rfl (ok_nilCheck rfl) ?_
 refine dw_o rfl (ok_fieldAddr1 runUnderlying143 rfl sizeOf22 rfl rfl) ?_
 refine dw_o rfl (ok_load ti22 rfl) ?_
 refine dw_o rfl (ok_move rfl) ?_
 refine dw_o rfl (ok_nilCheck rfl) ?_
 refine dw_o rfl (ok_fieldAddr1 runUnderlying143 rfl sizeOf3 rfl rfl) ?_
 refine dw_o rfl (ok_load ti3 rfl) ?_
 refine dw_o rfl (ok_sub rfl rfl (by omega) (by omega)) ?_
 refine dw_o rfl (ok_move rfl) ?_
 refine dw_o rfl (ok_nilCheck rfl) ?_
 refine dw_o rfl (ok_fieldAddr1 runUnderlying143 rfl sizeOf22 rfl rfl) ?_
 refine dw_o rfl (ok_load ti22 rfl) ?_
 refine dw_o rfl (ok_move rfl) ?_
 refine dw_o rfl (ok_index 0 sl22 rfl rfl (by omega) (by omega)) ?_
 refine dw_o rfl (ok_load ti3 rfl) ?_
 refine dw_o rfl (ok_sub rfl rfl (by omega) (by omega)) ?_
 refine dw_o rfl (ok_move rfl) ?_
 refine dw_o rfl (ok_nilCheck rfl) ?_
 refine dw_o rfl (ok_fieldAddr1 runUnderlying143 rfl sizeOf3 rfl rfl) ?_
 refine dw_o rfl (ok_load ti3 rfl) ?_
 refine dw_o rfl (ok_sub rfl rfl (by omega) (by omega)) ?_
 refine dw_o rfl (ok_rem rfl rfl (by omega) (by omega)) ?_
 refine dw_o rfl (ok_index 0 sl22 rfl rfl (by omega) (by omega)) ?_
 refine dw_o rfl (ok_load ti3 rfl) ?_
 refine dw_o rfl (ok_assign rfl) ?_
 refine dw_o rfl (ok_assign rfl) ?_
 refine dw_nil ?_
 refine enk K6 ?_
 refine ent_ret ?_
 exact retR2 (.inr rfl) results79 (resr_tmp (res_cv rfl (cv_int (by exact (invF_exp hF h10).symm)))) (resr_tmp (res_cv rfl (cv_int (by rw [if_neg h10]))))

theorem Scale_ok (f : Fld) (a : Int) (v : List Int) (hF : FOk f) (hv : v.length ≤ 1000000) : CtrF Try.prog 116 [aGF f, aInt a, aSl 1 false aInt v] (aVec 3 1 false aInt (scaleF f a v)) := by
 refine ctrF_of Try.call116 func116 rfl rfl ?_
 intro w O
 refine ent_lenP 0 4 rfl rfl (fun hlen0_4 => ?_)
 refine ent_lenP 0 5 rfl rfl (fun hlen0_5 => ?_)
 refine ent_len 2 rfl (fun hlen2 => ?_)
 refine esk rfl ?_
 refine esr rfl fun _ K2 => ?_
 refine ent_o rfl (ok_len rfl runUnderlying22 rfl) ?_
 refine ent_make aInt 0 rfl vt22 rfl rfl (by omega) (by omega) (by omega) (fun _ _ => rfl) (AllV.mem ⟨rfl, trivial⟩) (fun b12_1 => ?_)
 refine emm rfl ?_
 refine enk K2 ?_
 refine ent_seq fun _ K3 => ?_
 refine esr rfl fun _ K4 => ?_
 refine ent_o rfl (ok_len rfl runUnderlying22 rfl) ?_
 refine emm rfl ?_
 refine enk K4 ?_
 refine ent_block ?_
 refine ent_loop (fun (i : Int) => (⟨[(0, aGF f), (1, aInt a), (7, aEx (vec (some b12_1) (((↑v.length : Int)).toNat) (((↑v.length : Int)).toNat))), (13, aSl 1 false aInt v), (14, aInt (↑v.length : Int)), (15, aInt i)], [oVec (some b12_1) (((↑v.length : Int)).toNat) 3 1 false aInt (mixL (scaleF f a v) (List.replicate v.length 0) i)]⟩ : St)) (fun (i : Int) => (0 ≤ i) ∧ (i ≤ v.length)) (fun (i : Int) => (v.length - i).toNat) 0 ⟨(by omega), (by omega)⟩ (ent_rep ⟨rfl, rfl, rfl, rfl, rfl, slot_av (av_int (show 0 = (0 : Int) by rfl)), trivial⟩ (own_cons (own_vec (show mixL (scaleF f a v) (List.replicate v.length 0) (0 : Int) = List.replicate (((↑v.length : Int)).toNat) 0 by exact mixL_zero _ _)) (rfl))) ?_
 rintro i ⟨h0, h1⟩
 show Ent _ ⟨_, [_]⟩ _
 have lm : (mixL (scaleF f a v) (List.replicate v.length 0) i).length = v.length := by rw [length_mixL _ _ (by simp)]; simp
 refine esr rfl fun _ K5 => ?_
 refine ent_o rfl (ok_lss rfl rfl) ?_
 refine enk K5 ?_
 refine ent_seq fun _ K6 => ?_
 refine ent_condD rfl (fun h16 => ?_) (fun h16 => ?_)
 ·refine esp K6 ?_
  refine ent_seq fun _ K7 => ?_
  refine ent_block ?_
  refine esr rfl fun _ K8 => ?_
  refine ent_o rfl (ok_index 0 sl22 rfl rfl (by omega) (by omega)) ?_
  refine ent_o rfl (ok_load ti3 rfl) ?_
  refine emm rfl ?_
  refine enk K8 ?_
  refine ent_region ?_
  refine emm rfl ?_
  refine ent_o rfl (ok_call (Mul_ok f a (ix 0 v i) ‹_›) rfl) ?_
  refine ent_o rfl (ok_indexV sl22 rfl rfl (by omega) (by omega)) ?_
  refine ent_storeV (k := 0) (z := mulF f a (ix 0 v i)) ti3 rfl rfl rfl (elem_one (one_int _)) (by omega) (by omega) ?_
  refine enk K7 ?_
  refine ent_region ?_
  refine ent_o rfl (ok_add rfl rfl (by omega) (by omega)) ?_
  refine emm rfl ?_
  refine ent_nil ?_
  refine ent_again (s := (i)) (i + 1) ⟨(by omega), ‹_›⟩ (by omega) (ent_rep ⟨rfl, rfl, rfl, rfl, rfl, rfl, trivial⟩ (own_cons (own_vec (show mixL (scaleF f a v) (List.replicate v.length 0) (i + 1) = List.set (mixL (scaleF f a v) (List.replicate v.length 0) i) (i).toNat (mulF f a (ix 0 v i)) by exact scaleF_set f a v h0 h16)) (rfl)))
 refine ent_exit ?_
 refine ent_k K3 ?_
 refine esk rfl ?_
 refine ent_ret ?_
 exact retR1 (.inr rfl) results116 (resr_tmp (res_cv rfl (cvF_vecV (k := 0) flat_int rfl rfl (by simp_all) (by exact mixL_all _ _ (by simp; omega) (by simp; omega)))))

theorem rNeg_ok (f : Fld) (x : Int) (hS : Shape f) : Ctr Try.prog 145 [aFld f, aInt x] (aInt (negF f x)) := by
 have hb := hS.bd
 have hP := hS.pI
 have hN := hS.mN
 have lx := length_digS f.P f.M.toNat (inF f x)
 have ld := length_dneg f.P f.M.toNat (inF f x)
 refine ctr_of Try.call145 func145 rfl rfl ?_
 intro w O
 refine ent_lenC 0 2 rfl rfl (fun hlen0_2 => ?_)
 refine esr rfl fun _ K1 => ?_
 refine ent_boxS rfl rfl (AllOne.mem ⟨(one_int _), (one_int _), one_sl, trivial⟩) (fun b2_1 => ?_)
 refine emm rfl ?_
 refine enk K1 ?_
 refine esr rfl fun _ K2 => ?_
 refine ent_o rfl (ok_loadBS (k := 0) ti24 rfl rfl rfl) ?_
 refine emm rfl ?_
 refine ent_callV [] rfl (rDigits_ok f x ‹_›) (ArgsA.ok ⟨arg_a rfl (cv_id (sub_lent _)), arg_a rfl (cv_id (sub_lent _)), trivial⟩) (fun r9 c9 => ?_)
 refine ent_rsome 0 rfl (by omega) (fun b9_2 hb9_2 => ?_)
 subst hb9_2
 refine emm rfl ?_
 refine enk K2 ?_
 refine ent_seq fun _ K3 => ?_
 refine esk rfl ?_
 refine ent_block ?_
 refine ent_loop (fun (i : Int) => (⟨[(2, aEx (.pointer (some ⟨b2_1, 0, none⟩))), (5, aEx (vec (some b9_2) ((digS f.P f.M.toNat (inF f x)).length) c9)), (6, aInt i)], [oVec (some b9_2) c9 3 1 false aInt (mixL (dneg f.P f.M.toNat (inF f x)) (digS f.P f.M.toNat (inF f x)) i), oBox b2_1 24 [aInt f.P, aInt f.M, aSl 1 false aInt f.mod]]⟩ : St)) (fun (i : Int) => (0 ≤ i) ∧ (i ≤ f.M)) (fun (i : Int) => (f.M - i).toNat) 0 ⟨(by omega), (by omega)⟩ (ent_rep ⟨rfl, rfl, slot_av (av_int (show 0 = (0 : Int) by rfl)), trivial⟩ (own_cons (own_vec (show mixL (dneg f.P f.M.toNat (inF f x)) (digS f.P f.M.toNat (inF f x)) (0 : Int) = digS f.P f.M.toNat (inF f x) by exact mixL_zero _ _)) (rfl))) ?_
 rintro i ⟨h0, h1⟩
 show Ent _ ⟨_, [_, _]⟩ _
 have lm := length_mixL (dneg f.P f.M.toNat (inF f x)) (digS f.P f.M.toNat (inF f x)) (i := i) (by omega)
 refine ent_seq fun _ K5 => ?_
 refine esr rfl fun _ K6 => ?_
 refine ent_o rfl (ok_lenEx rfl runUnderlying22 rfl) ?_
 refine ent_o rfl (ok_lss rfl rfl) ?_
 refine enk K6 ?_
 refine ent_condD rfl (fun h13 => ?_) (fun h13 => ?_)
 ·have hdx := hS.dig_ix (inF f x) h0 (show i < f.M by omega)
  have hmi := ix_mixL (dneg f.P f.M.toNat (inF f x)) (digS f.P f.M.toNat (inF f x)) h0 (by omega) (by omega)
  have hvv : (f.P - ix 0 (mixL (dneg f.P f.M.toNat (inF f x)) (digS f.P f.M.toNat (inF f x)) i) i) % f.P = ix 0 (dneg f.P f.M.toNat (inF f x)) i := by rw [hmi]; exact (ix_dneg f.P _ _ h0 (by omega)).symm
  refine esp K5 ?_
  refine ent_seq fun _ K7 => ?_
  refine ent_block ?_
  refine ent_draw 13 mixed (by kernel_rfl) (by kernel_rfl) (by kernel_rfl) ?_
  refine dw_o rfl (ok_move rfl) ?_
  refine dw_o rfl (ok_move rfl) ?_
  refine dw_o rfl (ok_fieldAddrEx runUnderlying24 rfl sizeOf3 (by decide) rfl) ?_
  refine dw_o rfl (ok_loadB (k := 1) isAgg3 rfl rfl rfl) ?_
  refine dw_o rfl (ok_move rfl) ?_
  refine dw_o rfl (ok_move rfl) ?_
  refine dw_o rfl (ok_indexV sl22 rfl rfl (by omega) (by omega)) ?_
  refine dw_o rfl (ok_loadV (k := 0) 0 ti3 rfl rfl (by omega) (by omega)) ?_
  refine dw_o rfl (ok_sub rfl rfl (by omega) (by omega)) ?_
  refine dw_o rfl (ok_fieldAddrEx runUnderlying24 rfl sizeOf3 (by decide) rfl) ?_
  refine dw_o rfl (ok_loadB (k := 1) isAgg3 rfl rfl rfl) ?_
  refine dw_o rfl (ok_rem rfl rfl (by omega) (by omega)) ?_
  refine dw_o rfl (ok_indexV sl22 rfl rfl (by omega) (by omega)) ?_
  refine dw_nil ?_
  refine ent_storeV (k := 0) (z := (f.P - (ix 0 (mixL (dneg f.P f.M.toNat (inF f x)) (digS f.P f.M.toNat (inF f x)) i) i)) % f.P) ti3 rfl rfl rfl (elem_one (one_int _)) (by omega) (by omega) ?_
  refine enk K7 ?_
  refine ent_region ?_
  refine emm rfl ?_
  refine ent_o rfl (ok_add rfl rfl (by omega) (by omega)) ?_
  refine emm rfl ?_
  refine ent_nil ?_
  refine ent_again (s := (i)) (i + 1) ⟨(by omega), (by omega)⟩ (by omega) (ent_rep ⟨rfl, rfl, rfl, trivial⟩ (own_cons (own_vec (show mixL (dneg f.P f.M.toNat (inF f x)) (digS f.P f.M.toNat (inF f x)) (i + 1) = List.set (mixL (dneg f.P f.M.toNat (inF f x)) (digS f.P f.M.toNat (inF f x)) i) (i).toNat ((f.P - (ix 0 (mixL (dneg f.P f.M.toNat (inF f x)) (digS f.P f.M.toNat (inF f x)) i) i)) % f.P) by exact (mixL_set _ _ h0 (by omega) (by omega) hvv).symm)) (rfl)))
 have hme := mixL_all (dneg f.P f.M.toNat (inF f x)) (digS f.P f.M.toNat (inF f x)) (i := i) (by omega) (by omega)
 have hdm : ∀ c ∈ dneg f.P f.M.toNat (inF f x), 0 ≤ c ∧ c < f.P := dneg_mem f.P hb.1 _ _
 have hdl : f.P ^ (dneg f.P f.M.toNat (inF f x)).length ≤ 256 := by rw [ld]; omega
 rw [← hme] at hdm hdl
 refine ent_exit ?_
 refine ent_k K3 ?_
 refine esr rfl fun _ K8 => ?_
 refine ent_o rfl (ok_loadBS (k := 1) ti24 rfl rfl rfl) ?_
 refine emm rfl ?_
 refine ent_o rfl (ok_callP [0] (by exact pl_ex) (rValue_ok f (mixL (dneg f.P f.M.toNat (inF f x)) (digS f.P f.M.toNat (inF f x)) i) (by omega) ‹_› ‹_›) ⟨arg_a rfl (cv_id (sub_lent _)), arg_a rfl (cv_vec (k := 0) (off_lent rfl (by decide)) (by simp_all) rfl), trivial⟩) ?_
 refine emm rfl ?_
 refine enk K8 ?_
 refine ent_ret ?_
 exact retR1 (.inr rfl) results145 (resr_tmp (res_cv rfl (cv_int (by rw [hme, valS_dneg]; exact (hS.negc_wneg _).symm))))

theorem rInv_ok (f : Fld) (x : Int) (hF : FOk f) : Ctr Try.prog 135 [aFld f, aInt x] (aInt (invF f x)) := by
 have hS := hF.1
 have hb := hS.bd
 refine ctr_of Try.call135 func135 rfl rfl ?_
 intro w O
 refine ent_lenC 0 2 rfl rfl (fun hlen0_2 => ?_)
 refine esr rfl fun _ K1 => ?_
 refine ent_boxS rfl rfl (AllOne.mem ⟨(one_int _), (one_int _), one_sl, trivial⟩) (fun b2_1 => ?_)
 refine emm rfl ?_
 refine enk K1 ?_
 refine ent_seq fun _ K2 => ?_
 refine esk rfl ?_
 refine ent_block ?_
 refine ent_loop (fun (y : Int) => (⟨[(1, aInt x), (2, aEx (.pointer (some ⟨b2_1, 0, none⟩))), (5, aInt y)], [oBox b2_1 24 [aInt f.P, aInt f.M, aSl 1 false aInt f.mod]]⟩ : St)) (fun (y : Int) => (1 ≤ y) ∧ (y ≤ f.q) ∧ (∀ z : Int, 1 ≤ z → z < y → mulF f x z ≠ 1)) (fun (y : Int) => (f.q - y).toNat) 1 ⟨(by omega), (by omega), (fun z z0 z1 => by omega)⟩ (ent_rep ⟨rfl, rfl, slot_av (av_int (show 1 = (1 : Int) by rfl)), trivial⟩ rfl) ?_
 rintro y ⟨h0, h1, hn⟩
 show Ent _ ⟨_, [_]⟩ _
 refine ent_seq fun _ K4 => ?_
 refine esr rfl fun _ K5 => ?_
 refine ent_o rfl (ok_loadBS (k := 0) ti24 rfl rfl rfl) ?_
 refine ent_o rfl (ok_call (rOrder_ok f) rfl) ?_
 refine ent_o rfl (ok_lss rfl rfl) ?_
 refine enk K5 ?_
 refine ent_condD rfl (fun h9 => ?_) (fun h9 => ?_)
 ·refine esp K4 ?_
  refine ent_seq fun _ K6 => ?_
  refine ent_block ?_
  refine esr rfl fun _ K7 => ?_
  refine ent_o rfl (ok_loadBS (k := 0) ti24 rfl rfl rfl) ?_
  refine emm rfl ?_
  refine ent_o rfl (ok_call (rMul_ok f x y ‹_›) rfl) ?_
  refine ent_o rfl (ok_eql rfl rfl) ?_
  refine enk K7 ?_
  refine ent_condD rfl (fun h16 => ?_) (fun h16 => ?_)
  ·refine esk rfl ?_
   refine ent_ret ?_
   exact retR1 (.inr rfl) results135 (resr_tmp (res_cv rfl (cv_int (by exact invF_uniq hF h0 h9 h16))))
  refine esp K6 ?_
  refine ent_region ?_
  refine emm rfl ?_
  refine ent_o rfl (ok_add rfl rfl (by omega) (by omega)) ?_
  refine emm rfl ?_
  refine ent_nil ?_
  refine ent_again (s := (y)) (y + 1) ⟨(by omega), ‹_›, (fun z z0 z1 => by by_cases hz : z = y; (rw [hz]; exact h16); exact hn z z0 (by omega))⟩ (by omega) (ent_rep ⟨rfl, rfl, rfl, trivial⟩ rfl)
 refine ent_exit ?_
 refine ent_k K2 ?_
 refine esk rfl ?_
 refine ent_ret ?_
 exact retR1 (.inr rfl) results135 (resr_tmp (res_cv rfl (cv_int (by exact (invF_none hF (fun z z0 z1 => hn z z0 (by omega))).symm))))

end Go.Proofs.Ytfjhbdfgbpcchaa

