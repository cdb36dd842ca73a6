/-
  Walks of functions of the program and the reference.
-/
import Derived.Test.YtfjhbdfgbpcchaaV6
open Go Go.Cw
namespace Go.Proofs.Ytfjhbdfgbpcchaa
open Try
set_option maxRecDepth 100000
set_option linter.unusedVariables false
set_option linter.unusedSimpArgs false
theorem Mul_ok (f : Fld) (x y : Int) (hF : FOk f) : Ctr Try.prog 102 [aGF f, aInt x, aInt y] (aInt (mulF f x y)) := by
 have hS := hF.1
 have hb := hS.bd
 have hix := inF_lt hS x
 have hiy := inF_lt hS y
 have hE := hF.exp_good
 have hL := length_logsTo f (f.q - 1)
 change f.logs.length = _ at hL
 refine ctr_of Try.call102 func102 rfl rfl ?_
 intro w O
 refine ent_lenP 0 4 rfl rfl (fun hlen0_4 => ?_)
 refine ent_lenP 0 5 rfl rfl (fun hlen0_5 => ?_)
 refine esk rfl ?_
 refine esr rfl fun _ K2 => ?_
 refine ent_o rfl (ok_call (in_ok f x) rfl) ?_
 refine emm rfl ?_
 refine ent_o rfl (ok_call (in_ok f y) rfl) ?_
 refine emm rfl ?_
 refine enk K2 ?_
 refine ent_seq fun _ K3 => ?_
 refine ent_seq fun _ K4 => ?_
 refine ent_cut (⟨[(0, aGF f), (1, aInt (inF f x)), (2, aInt (inF f y)), (18, aBool (decide (((inF f x) = 0) ∨ ((inF f y) = 0))))], []⟩) ?_ ?_
 ·refine ent_region ?_
  refine emm rfl ?_
  refine ent_o rfl (ok_eql rfl rfl) ?_
  refine emm rfl ?_
  refine ent_guardXDf rfl rfl rfl rfl (fun hg15 => ?_) (fun hg15 => ?_)
  ·refine emm rfl ?_
   refine ent_guardXT rfl rfl rfl rfl (decide_eq_false hg15) ?_
   refine ent_o rfl (ok_eql rfl rfl) ?_
   refine ent_o rfl (ok_pickF rfl (decide_eq_false hg15) rfl) ?_
   refine ent_nil ?_
   exact ent_rep ⟨rfl, rfl, rfl, slot_bool (dq_Q ((or_iff_right hg15).trans Iff.rfl)), trivial⟩ rfl
  refine ent_guardXF rfl rfl rfl rfl (decide_eq_true hg15) ?_
  refine ent_o rfl (ok_pickT rfl (decide_eq_true hg15) rfl) ?_
  refine ent_nil ?_
  exact ent_rep ⟨rfl, rfl, rfl, slot_bool (dq_T rfl (Or.inl hg15)), trivial⟩ rfl
 refine ent_k K4 ?_
 refine ent_condD rfl (fun h18 => ?_) (fun h18 => ?_)
 ·refine esk rfl ?_
  refine ent_ret ?_
  exact retR1 (.inr rfl) results102 (resr_tmp (res_cv rfl (cv_int (by exact (mulF_zero hS h18).symm))))
 have hlx := hF.log (c := inF f x) (by omega) hix.2
 have hly := hF.log (c := inF f y) (by omega) hiy.2
 have hm := Int.emod_nonneg (ix 0 f.logs (inF f x) + ix 0 f.logs (inF f y)) (show f.q - 1 ≠ 0 by omega)
 have hm2 := Int.emod_lt_of_pos (ix 0 f.logs (inF f x) + ix 0 f.logs (inF f y)) (show 0 < f.q - 1 by omega)
 refine esp K3 ?_
 refine ent_seq fun _ K6 => ?_
 refine ent_draw 28 mixed (by kernel_rfl) (drawQ_F (by kernel_rfl)) (by kernel_rfl) ?_
 refine dw_o rfl (ok_move rfl) ?_
 refine dw_o rfl (ok_nilCheck rfl) ?_
 refine dw_o rfl (ok_fieldAddr1 runUnderlying143 rfl sizeOf22 rfl rfl) ?_
 refine dw_o rfl (ok_load ti22 rfl) ?_
 refine dw_o rfl (ok_move rfl) ?_
 refine dw_o rfl (ok_nilCheck rfl) ?_
 refine dw_o rfl (ok_fieldAddr1 runUnderlying143 rfl sizeOf22 rfl rfl) ?_
 refine dw_o rfl (ok_load ti22 rfl) ?_
 refine dw_o rfl (ok_move rfl) ?_
 refine dw_o rfl (ok_index 0 sl22 rfl rfl (by omega) (by omega)) ?_
 refine dw_o rfl (ok_load ti3 rfl) ?_
 refine dw_o rfl (ok_move rfl) ?_
 refine dw_o rfl (ok_nilCheck rfl) ?_
 refine dw_o rfl (ok_fieldAddr1 runUnderlying143 rfl sizeOf22 rfl rfl) ?_
 refine dw_o rfl (ok_load ti22 rfl) ?_
 refine dw_o rfl (ok_move rfl) ?_
 refine dw_o rfl (ok_index 0 sl22 rfl rfl (by omega) (by omega)) ?_
 refine dw_o rfl (ok_load ti3 rfl) ?_
 refine dw_o rfl (ok_add rfl rfl (by omega) (by omega)) ?_
 refine dw_o rfl (ok_move rfl) ?_
 refine dw_o rfl (ok_nilCheck rfl) ?_
 refine dw_o rfl (ok_fieldAddr1 runUnderlying143 rfl sizeOf3 rfl rfl) ?_
 refine dw_o rfl (ok_load ti3 rfl) ?_
 refine dw_o rfl (ok_sub rfl rfl (by omega) (by omega)) ?_
 refine dw_o rfl (ok_rem rfl rfl (by omega) (by omega)) ?_
 refine dw_o rfl (ok_index 0 sl22 rfl rfl (by omega) (by omega)) ?_
 refine dw_o rfl (ok_load ti3 rfl) ?_
 refine dw_o rfl (ok_assign rfl) ?_
 refine dw_nil ?_
 refine enk K6 ?_
 refine ent_ret ?_
 exact retR1 (.inr rfl) results102 (resr_tmp (res_cv rfl (cv_int (by exact hF.mul_log (by omega) hix.2 (by omega) hiy.2))))

theorem Add_ok (f : Fld) (x y : Int) (hF : FOk f) : Ctr Try.prog 101 [aGF f, aInt x, aInt y] (aInt (addF f x y)) := by
 have hS := hF.1
 have hb := hS.bd
 have hix := inF_lt hS x
 have hiy := inF_lt hS y
 have hsl := hS.addF_lt x y
 have hw : addF f x y = wadd f.P f.M.toNat (inF f x) (inF f y) := hS.addc_wadd _ _
 refine ctr_of Try.call101 func101 rfl rfl ?_
 intro w O
 refine ent_lenP 0 4 rfl rfl (fun hlen0_4 => ?_)
 refine ent_lenP 0 5 rfl rfl (fun hlen0_5 => ?_)
 refine esk rfl ?_
 refine esr rfl fun _ K2 => ?_
 refine ent_o rfl (ok_call (in_ok f x) rfl) ?_
 refine emm rfl ?_
 refine ent_o rfl (ok_call (in_ok f y) rfl) ?_
 refine emm rfl ?_
 refine enk K2 ?_
 refine ent_seq fun _ K3 => ?_
 refine esr rfl fun _ K4 => ?_
 refine ent_o rfl (ok_nilCheck rfl) ?_
 refine ent_o rfl (ok_fieldAddrS runUnderlying143 rfl sizeOf24 (by decide) (Nat.le_of_ble_eq_true rfl) rfl) ?_
 refine ent_o rfl (ok_fieldAddr1 runUnderlying24 rfl sizeOf3 rfl rfl) ?_
 refine ent_o rfl (ok_load ti3 rfl) ?_
 refine ent_o rfl (ok_eql rfl rfl) ?_
 refine enk K4 ?_
 refine ent_condD rfl (fun h20 => ?_) (fun h20 => ?_)
 ·refine esr rfl fun _ K5 => ?_
  refine ent_o rfl (ok_xor rfl rfl (by omega) (by omega) (by omega) (by omega)) ?_
  refine emm rfl ?_
  refine enk K5 ?_
  refine ent_ret ?_
  exact retR1 (.inr rfl) results101 (resr_tmp (res_cv rfl (cv_int (by exact hS.addF_xor h20 x y))))
 refine esp K3 ?_
 refine esk rfl ?_
 refine ent_seq fun _ K7 => ?_
 refine ent_block ?_
 refine ent_loop (fun (ss : Int × Int × Int × Int × Nat) => match ss with | (u, v, t, pl, n) => (⟨[(0, aGF f), (1, aInt u), (2, aInt v), (7, aInt t), (8, aInt pl)], []⟩ : St)) (fun (ss : Int × Int × Int × Int × Nat) => match ss with | (u, v, t, pl, n) => (0 ≤ u) ∧ (u < f.P ^ n) ∧ (0 ≤ v) ∧ (v < f.P ^ n) ∧ (1 ≤ pl) ∧ (pl * f.P ^ n = f.q) ∧ (0 ≤ t) ∧ (t + pl * wadd f.P n u v = addF f x y)) (fun (ss : Int × Int × Int × Int × Nat) => match ss with | (u, v, t, pl, n) => n) (inF f x, inF f y, 0, 1, f.M.toNat) ⟨(by omega), (by omega), (by omega), (by omega), (by omega), (by omega), (by omega), (by rw [hw]; omega)⟩ (ent_rep ⟨rfl, rfl, rfl, slot_av (av_int (show 0 = (0 : Int) by rfl)), slot_av (av_int (show 1 = (1 : Int) by rfl)), trivial⟩ rfl) ?_
 rintro ⟨u, v, t, pl, n⟩ ⟨u0, u1, v0, v1, w0, hwq, t0, ht⟩
 show Ent _ ⟨_, []⟩ _
 refine ent_seq fun _ K8 => ?_
 refine ent_seq fun _ K9 => ?_
 refine ent_cut (⟨[(0, aGF f), (1, aInt u), (2, aInt v), (7, aInt t), (8, aInt pl), (29, aBool (decide ((0 < u) ∨ (0 < v))))], []⟩) ?_ ?_
 ·refine ent_region ?_
  refine emm rfl ?_
  refine ent_o rfl (ok_gtr rfl rfl) ?_
  refine emm rfl ?_
  refine ent_guardXDf rfl rfl rfl rfl (fun hg26 => ?_) (fun hg26 => ?_)
  ·refine emm rfl ?_
   refine ent_guardXT rfl rfl rfl rfl (decide_eq_false hg26) ?_
   refine ent_o rfl (ok_gtr rfl rfl) ?_
   refine ent_o rfl (ok_pickF rfl (decide_eq_false hg26) rfl) ?_
   refine ent_nil ?_
   exact ent_rep ⟨rfl, rfl, rfl, rfl, rfl, slot_bool (dq_Q ((or_iff_right hg26).trans Iff.rfl)), trivial⟩ rfl
  refine ent_guardXF rfl rfl rfl rfl (decide_eq_true hg26) ?_
  refine ent_o rfl (ok_pickT rfl (decide_eq_true hg26) rfl) ?_
  refine ent_nil ?_
  exact ent_rep ⟨rfl, rfl, rfl, rfl, rfl, slot_bool (dq_T rfl (Or.inl hg26)), trivial⟩ rfl
 refine ent_k K9 ?_
 refine ent_condD rfl (fun h29 => ?_) (fun h29 => ?_)
 ·have hn : 1 ≤ n := by
   by_cases hn0 : n = 0
   ·subst hn0; simp at u1 v1; omega
   omega
  have hpn : f.P ^ n = f.P ^ (n - 1) * f.P := by conv => lhs; rw [show n = n - 1 + 1 by omega, Int.pow_succ]
  have hpp := pow_pos_of f.P hb.1 n
  have hpp1 := pow_pos_of f.P hb.1 (n - 1)
  have hsu := wadd_succ f.P hn u v
  have hwl : pl ≤ f.q := by have := Int.mul_le_mul_of_nonneg_left hpp (show 0 ≤ pl by omega); omega
  have hwp : pl * f.P ≤ f.q := by rw [← hwq, hpn]; have := Int.mul_le_mul_of_nonneg_left hpp1 (show 0 ≤ pl * f.P by exact Int.mul_nonneg (by omega) (by omega)); rw [Int.mul_one, Int.mul_assoc, Int.mul_comm f.P] at this; exact this
  have hwp1 : pl ≤ pl * f.P := by have := Int.mul_le_mul_of_nonneg_left (show (1 : Int) ≤ f.P by omega) (show 0 ≤ pl by omega); omega
  have hd0 := Int.emod_nonneg u (show f.P ≠ 0 by omega)
  have hd1 := Int.emod_lt_of_pos u (show 0 < f.P by omega)
  have hd2 := Int.emod_nonneg v (show f.P ≠ 0 by omega)
  have hd3 := Int.emod_lt_of_pos v (show 0 < f.P by omega)
  have hd4 := Int.emod_nonneg (u % f.P + v % f.P) (show f.P ≠ 0 by omega)
  have hd5 := Int.emod_lt_of_pos (u % f.P + v % f.P) (show 0 < f.P by omega)
  have hm := mul_small hd4 (by omega) (show 0 ≤ pl by omega) (by omega)
  have hwn := wadd_nonneg f.P hb.1 n u v
  have htl : t ≤ 256 := by have := Int.mul_nonneg (show 0 ≤ pl by omega) hwn; omega
  have hul : u ≤ 256 := by have := pow_le_q hwq w0 hpp; omega
  have hvl : v ≤ 256 := by have := pow_le_q hwq w0 hpp; omega
  refine esp K8 ?_
  refine ent_block ?_
  refine ent_seq fun _ K10 => ?_
  refine ent_draw 26 mixed (by kernel_rfl) (drawQ_F (by kernel_rfl)) (by kernel_rfl) ?_
  refine dw_o rfl (ok_move rfl) ?_
  refine dw_o rfl (ok_move rfl) ?_
  refine dw_o rfl (ok_move rfl) ?_
  refine dw_o rfl (ok_nilCheck rfl) ?_
  refine dw_o rfl (ok_fieldAddrS runUnderlying143 rfl sizeOf24 (by decide) (Nat.le_of_ble_eq_true rfl) rfl) ?_
  refine dw_o rfl (ok_fieldAddr1 runUnderlying24 rfl sizeOf3 rfl rfl) ?_
  refine dw_o rfl (ok_load ti3 rfl) ?_
  refine dw_o rfl (ok_rem rfl rfl (by omega) (by omega)) ?_
  refine dw_o rfl (ok_move rfl) ?_
  refine dw_o rfl (ok_move rfl) ?_
  refine dw_o rfl (ok_nilCheck rfl) ?_
  refine dw_o rfl (ok_fieldAddrS runUnderlying143 rfl sizeOf24 (by decide) (Nat.le_of_ble_eq_true rfl) rfl) ?_
  refine dw_o rfl (ok_fieldAddr1 runUnderlying24 rfl sizeOf3 rfl rfl) ?_
  refine dw_o rfl (ok_load ti3 rfl) ?_
  refine dw_o rfl (ok_rem rfl rfl (by omega) (by omega)) ?_
  refine dw_o rfl (ok_add rfl rfl (by omega) (by omega)) ?_
  refine dw_o rfl (ok_move rfl) ?_
  refine dw_o rfl (ok_nilCheck rfl) ?_
  refine dw_o rfl (ok_fieldAddrS runUnderlying143 rfl sizeOf24 (by decide) (Nat.le_of_ble_eq_true rfl) rfl) ?_
  refine dw_o rfl (ok_fieldAddr1 runUnderlying24 rfl sizeOf3 rfl rfl) ?_
  refine dw_o rfl (ok_load ti3 rfl) ?_
  refine dw_o rfl (ok_rem rfl rfl (by omega) (by omega)) ?_
  refine dw_o rfl (ok_move rfl) ?_
  refine dw_o rfl (ok_mul rfl rfl (by omega) (by omega)) ?_
  refine dw_o rfl (ok_add rfl rfl (by omega) (by omega)) ?_
  refine dw_o rfl (ok_assign rfl) ?_
  refine dw_nil ?_
  refine enk K10 ?_
  refine esr rfl fun _ K11 => ?_
  refine ent_o rfl (ok_nilCheck rfl) ?_
  refine ent_o rfl (ok_fieldAddrS runUnderlying143 rfl sizeOf24 (by decide) (Nat.le_of_ble_eq_true rfl) rfl) ?_
  refine ent_o rfl (ok_fieldAddr1 runUnderlying24 rfl sizeOf3 rfl rfl) ?_
  refine ent_o rfl (ok_load ti3 rfl) ?_
  refine ent_o rfl (ok_mul rfl rfl (by omega) (by omega)) ?_
  refine emm rfl ?_
  refine enk K11 ?_
  refine esr rfl fun _ K12 => ?_
  refine ent_o rfl (ok_nilCheck rfl) ?_
  refine ent_o rfl (ok_fieldAddrS runUnderlying143 rfl sizeOf24 (by decide) (Nat.le_of_ble_eq_true rfl) rfl) ?_
  refine ent_o rfl (ok_fieldAddr1 runUnderlying24 rfl sizeOf3 rfl rfl) ?_
  refine ent_o rfl (ok_load ti3 rfl) ?_
  refine ent_o rfl (ok_quo rfl rfl (by omega) (by omega) (by omega)) ?_
  refine emm rfl ?_
  refine enk K12 ?_
  refine ent_region ?_
  refine emm rfl ?_
  refine ent_o rfl (ok_nilCheck rfl) ?_
  refine ent_o rfl (ok_fieldAddrS runUnderlying143 rfl sizeOf24 (by decide) (Nat.le_of_ble_eq_true rfl) rfl) ?_
  refine ent_o rfl (ok_fieldAddr1 runUnderlying24 rfl sizeOf3 rfl rfl) ?_
  refine ent_o rfl (ok_load ti3 rfl) ?_
  refine ent_o rfl (ok_quo rfl rfl (by omega) (by omega) (by omega)) ?_
  refine emm rfl ?_
  refine ent_nil ?_
  refine ent_again (s := (u, v, t, pl, n)) (u / f.P, v / f.P, t + ((((u % f.P) + (v % f.P)) % f.P) * pl), pl * f.P, n - 1) ⟨(Int.ediv_nonneg u0 (by omega)), (Int.ediv_lt_of_lt_mul (by omega) (by rw [← hpn]; exact u1)), (Int.ediv_nonneg v0 (by omega)), (Int.ediv_lt_of_lt_mul (by omega) (by rw [← hpn]; exact v1)), (by omega), (by rw [Int.mul_assoc, Int.mul_comm f.P, ← hpn]; exact hwq), (by omega), (by rw [← ht, hsu, Int.mul_add, ← Int.mul_assoc, Int.mul_comm pl ((u % f.P + v % f.P) % f.P)]; omega)⟩ (by dsimp only; omega) (ent_rep ⟨rfl, rfl, rfl, rfl, rfl, trivial⟩ rfl)
 refine ent_exit ?_
 refine ent_k K7 ?_
 refine esk rfl ?_
 refine ent_ret ?_
 exact retR1 (.inr rfl) results101 (resr_tmp (res_cv rfl (cv_int (by have hu : u = 0 := (by omega); have hv : v = 0 := (by omega); rw [← ht, hu, hv, wadd_zero, Int.mul_zero]; omega))))

theorem rAdd_ok (f : Fld) (x y : Int) (hS : Shape f) : Ctr Try.prog 65 [aFld f, aInt x, aInt y] (aInt (addF f x y)) := by
 have hb := hS.bd
 have hP := hS.pI
 have hN := hS.mN
 have lx := length_digS f.P f.M.toNat (inF f x)
 have ly := length_digS f.P f.M.toNat (inF f y)
 have ld := length_dadd f.P f.M.toNat (inF f x) (inF f y)
 refine ctr_of Try.call65 func65 rfl rfl ?_
 intro w O
 refine ent_lenC 0 2 rfl rfl (fun hlen0_2 => ?_)
 refine esr rfl fun _ K1 => ?_
 refine ent_boxS rfl rfl (AllOne.mem ⟨(one_int _), (one_int _), one_sl, trivial⟩) (fun b3_1 => ?_)
 refine emm rfl ?_
 refine enk K1 ?_
 refine esr rfl fun _ K2 => ?_
 refine ent_o rfl (ok_loadBS (k := 0) ti24 rfl rfl rfl) ?_
 refine emm rfl ?_
 refine ent_callV [] rfl (rDigits_ok f x ‹_›) (ArgsA.ok ⟨arg_a rfl (cv_id (sub_lent _)), arg_a rfl (cv_id (sub_lent _)), trivial⟩) (fun r12 c12 => ?_)
 refine ent_rsome 0 rfl (by omega) (fun b12_2 hb12_2 => ?_)
 subst hb12_2
 refine emm rfl ?_
 refine enk K2 ?_
 refine esr rfl fun _ K3 => ?_
 refine ent_o rfl (ok_loadBS (k := 1) ti24 rfl rfl rfl) ?_
 refine emm rfl ?_
 refine ent_o rfl (ok_call (CtrF.ctr (CtrF.sl (rDigits_ok f y ‹_›))) rfl) ?_
 refine emm rfl ?_
 refine enk K3 ?_
 refine ent_seq fun _ K4 => ?_
 refine esk rfl ?_
 refine ent_block ?_
 refine ent_loop (fun (i : Int) => (⟨[(3, aEx (.pointer (some ⟨b3_1, 0, none⟩))), (7, aEx (vec (some b12_2) ((digS f.P f.M.toNat (inF f x)).length) c12)), (8, aSl 1 false aInt (digS f.P f.M.toNat (inF f y))), (9, aInt i)], [oVec (some b12_2) c12 3 1 false aInt (mixL (dadd f.P f.M.toNat (inF f x) (inF f y)) (digS f.P f.M.toNat (inF f x)) i), oBox b3_1 24 [aInt f.P, aInt f.M, aSl 1 false aInt f.mod]]⟩ : St)) (fun (i : Int) => (0 ≤ i) ∧ (i ≤ f.M)) (fun (i : Int) => (f.M - i).toNat) 0 ⟨(by omega), (by omega)⟩ (ent_rep ⟨rfl, rfl, rfl, slot_av (av_int (show 0 = (0 : Int) by rfl)), trivial⟩ (own_cons (own_vec (show mixL (dadd f.P f.M.toNat (inF f x) (inF f y)) (digS f.P f.M.toNat (inF f x)) (0 : Int) = digS f.P f.M.toNat (inF f x) by exact mixL_zero _ _)) (rfl))) ?_
 rintro i ⟨h0, h1⟩
 show Ent _ ⟨_, [_, _]⟩ _
 have lm := length_mixL (dadd f.P f.M.toNat (inF f x) (inF f y)) (digS f.P f.M.toNat (inF f x)) (i := i) (by omega)
 refine ent_seq fun _ K6 => ?_
 refine esr rfl fun _ K7 => ?_
 refine ent_o rfl (ok_lenEx rfl runUnderlying22 rfl) ?_
 refine ent_o rfl (ok_lss rfl rfl) ?_
 refine enk K7 ?_
 refine ent_condD rfl (fun h19 => ?_) (fun h19 => ?_)
 ·have hdx := hS.dig_ix (inF f x) h0 (show i < f.M by omega)
  have hdy := hS.dig_ix (inF f y) h0 (show i < f.M by omega)
  have hmi := ix_mixL (dadd f.P f.M.toNat (inF f x) (inF f y)) (digS f.P f.M.toNat (inF f x)) h0 (by omega) (by omega)
  have hvv : (ix 0 (mixL (dadd f.P f.M.toNat (inF f x) (inF f y)) (digS f.P f.M.toNat (inF f x)) i) i + ix 0 (digS f.P f.M.toNat (inF f y)) i) % f.P = ix 0 (dadd f.P f.M.toNat (inF f x) (inF f y)) i := by rw [hmi]; exact (ix_dadd f.P _ _ _ h0 (by omega)).symm
  refine esp K6 ?_
  refine ent_seq fun _ K8 => ?_
  refine ent_block ?_
  refine ent_draw 15 mixed (by kernel_rfl) (by kernel_rfl) (by kernel_rfl) ?_
  refine dw_o rfl (ok_move rfl) ?_
  refine dw_o rfl (ok_move rfl) ?_
  refine dw_o rfl (ok_move rfl) ?_
  refine dw_o rfl (ok_move rfl) ?_
  refine dw_o rfl (ok_indexV sl22 rfl rfl (by omega) (by omega)) ?_
  refine dw_o rfl (ok_loadV (k := 0) 0 ti3 rfl rfl (by omega) (by omega)) ?_
  refine dw_o rfl (ok_move rfl) ?_
  refine dw_o rfl (ok_move rfl) ?_
  refine dw_o rfl (ok_index 0 sl22 rfl rfl (by omega) (by omega)) ?_
  refine dw_o rfl (ok_load ti3 rfl) ?_
  refine dw_o rfl (ok_add rfl rfl (by omega) (by omega)) ?_
  refine dw_o rfl (ok_fieldAddrEx runUnderlying24 rfl sizeOf3 (by decide) rfl) ?_
  refine dw_o rfl (ok_loadB (k := 1) isAgg3 rfl rfl rfl) ?_
  refine dw_o rfl (ok_rem rfl rfl (by omega) (by omega)) ?_
  refine dw_o rfl (ok_indexV sl22 rfl rfl (by omega) (by omega)) ?_
  refine dw_nil ?_
  refine ent_storeV (k := 0) (z := ((ix 0 (mixL (dadd f.P f.M.toNat (inF f x) (inF f y)) (digS f.P f.M.toNat (inF f x)) i) i) + (ix 0 (digS f.P f.M.toNat (inF f y)) i)) % f.P) ti3 rfl rfl rfl (elem_one (one_int _)) (by omega) (by omega) ?_
  refine enk K8 ?_
  refine ent_region ?_
  refine emm rfl ?_
  refine ent_o rfl (ok_add rfl rfl (by omega) (by omega)) ?_
  refine emm rfl ?_
  refine ent_nil ?_
  refine ent_again (s := (i)) (i + 1) ⟨(by omega), (by omega)⟩ (by omega) (ent_rep ⟨rfl, rfl, rfl, rfl, trivial⟩ (own_cons (own_vec (show mixL (dadd f.P f.M.toNat (inF f x) (inF f y)) (digS f.P f.M.toNat (inF f x)) (i + 1) = List.set (mixL (dadd f.P f.M.toNat (inF f x) (inF f y)) (digS f.P f.M.toNat (inF f x)) i) (i).toNat (((ix 0 (mixL (dadd f.P f.M.toNat (inF f x) (inF f y)) (digS f.P f.M.toNat (inF f x)) i) i) + (ix 0 (digS f.P f.M.toNat (inF f y)) i)) % f.P) by exact (mixL_set _ _ h0 (by omega) (by omega) hvv).symm)) (rfl)))
 have hme := mixL_all (dadd f.P f.M.toNat (inF f x) (inF f y)) (digS f.P f.M.toNat (inF f x)) (i := i) (by omega) (by omega)
 have hdm : ∀ c ∈ dadd f.P f.M.toNat (inF f x) (inF f y), 0 ≤ c ∧ c < f.P := dadd_mem f.P hb.1 _ _ _
 have hdl : f.P ^ (dadd f.P f.M.toNat (inF f x) (inF f y)).length ≤ 256 := by rw [ld]; omega
 rw [← hme] at hdm hdl
 refine ent_exit ?_
 refine ent_k K4 ?_
 refine esr rfl fun _ K9 => ?_
 refine ent_o rfl (ok_loadBS (k := 1) ti24 rfl rfl rfl) ?_
 refine emm rfl ?_
 refine ent_o rfl (ok_callP [0] (by exact pl_ex) (rValue_ok f (mixL (dadd f.P f.M.toNat (inF f x) (inF f y)) (digS f.P f.M.toNat (inF f x)) i) (by omega) ‹_› ‹_›) ⟨arg_a rfl (cv_id (sub_lent _)), arg_a rfl (cv_vec (k := 0) (off_lent rfl (by decide)) (by simp_all) rfl), trivial⟩) ?_
 refine emm rfl ?_
 refine enk K9 ?_
 refine ent_ret ?_
 exact retR1 (.inr rfl) results65 (resr_tmp (res_cv rfl (cv_int (by rw [hme, valS_dadd]; exact (hS.addc_wadd _ _).symm))))

theorem rDot_ok (f : Fld) (a b : List Int) (hS : Shape f) : Ctr Try.prog 66 [aFld f, aSl 1 false aInt a, aSl 1 false aInt b] (aInt (dotF f a b)) := by
 refine ctr_of Try.call66 func66 rfl rfl ?_
 intro w O
 refine ent_lenC 0 2 rfl rfl (fun hlen0_2 => ?_)
 refine ent_len 1 rfl (fun hlen1 => ?_)
 refine ent_len 2 rfl (fun hlen2 => ?_)
 refine esr rfl fun _ K1 => ?_
 refine ent_boxS rfl rfl (AllOne.mem ⟨(one_int _), (one_int _), one_sl, trivial⟩) (fun b3_1 => ?_)
 refine emm rfl ?_
 refine enk K1 ?_
 refine esk rfl ?_
 refine ent_seq fun _ K3 => ?_
 refine esk rfl ?_
 refine ent_block ?_
 refine ent_loop (fun (i : Int) => (⟨[(1, aSl 1 false aInt a), (2, aSl 1 false aInt b), (3, aEx (.pointer (some ⟨b3_1, 0, none⟩))), (7, aInt (dotTo f a b i.toNat)), (8, aInt i)], [oBox b3_1 24 [aInt f.P, aInt f.M, aSl 1 false aInt f.mod]]⟩ : St)) (fun (i : Int) => (0 ≤ i) ∧ (i ≤ min (a.length : Int) (b.length : Int))) (fun (i : Int) => (min (a.length : Int) (b.length : Int) - i).toNat) 0 ⟨(by omega), (by omega)⟩ (ent_rep ⟨rfl, rfl, rfl, slot_av (av_int (show 0 = dotTo f a b (0 : Int).toNat by rfl)), slot_av (av_int (show 0 = (0 : Int) by rfl)), trivial⟩ rfl) ?_
 rintro i ⟨h0, h1⟩
 show Ent _ ⟨_, [_]⟩ _
 refine ent_seq fun _ K5 => ?_
 refine ent_seq fun _ K6 => ?_
 refine ent_cut (⟨[(1, aSl 1 false aInt a), (2, aSl 1 false aInt b), (3, aEx (.pointer (some ⟨b3_1, 0, none⟩))), (7, aInt (dotTo f a b i.toNat)), (8, aInt i), (18, aBool (decide ((i < (↑a.length : Int)) ∧ (i < (↑b.length : Int)))))], [oBox b3_1 24 [aInt f.P, aInt f.M, aSl 1 false aInt f.mod]]⟩) ?_ ?_
 ·refine ent_region ?_
  refine emm rfl ?_
  refine ent_o rfl (ok_len rfl runUnderlying22 rfl) ?_
  refine ent_o rfl (ok_lss rfl rfl) ?_
  refine emm rfl ?_
  refine ent_guardXDt rfl rfl rfl rfl (fun hg13 => ?_) (fun hg13 => ?_)
  ·refine emm rfl ?_
   refine ent_guardXT rfl rfl rfl rfl (decide_eq_true hg13) ?_
   refine emm rfl ?_
   refine ent_guardXT rfl rfl rfl rfl (decide_eq_true hg13) ?_
   refine ent_o rfl (ok_len rfl runUnderlying22 rfl) ?_
   refine ent_guardXT rfl rfl rfl rfl (decide_eq_true hg13) ?_
   refine ent_o rfl (ok_lss rfl rfl) ?_
   refine ent_o rfl (ok_pickT rfl (decide_eq_true hg13) rfl) ?_
   refine ent_nil ?_
   exact ent_rep ⟨rfl, rfl, rfl, rfl, rfl, slot_bool (dq_Q ((and_iff_right hg13).trans Iff.rfl)), trivial⟩ rfl
  refine ent_guardXF rfl rfl rfl rfl (decide_eq_false hg13) ?_
  refine ent_guardXF rfl rfl rfl rfl (decide_eq_false hg13) ?_
  refine ent_guardXF rfl rfl rfl rfl (decide_eq_false hg13) ?_
  refine ent_o rfl (ok_pickF rfl (decide_eq_false hg13) rfl) ?_
  refine ent_nil ?_
  exact ent_rep ⟨rfl, rfl, rfl, rfl, rfl, slot_bool (dq_F rfl (fun h => hg13 h.1)), trivial⟩ rfl
 refine ent_k K6 ?_
 refine ent_condD rfl (fun h18 => ?_) (fun h18 => ?_)
 ·refine esp K5 ?_
  refine ent_seq fun _ K7 => ?_
  refine ent_block ?_
  refine ent_draw 14 mixed (by kernel_rfl) (by kernel_rfl) (by kernel_rfl) ?_
  refine dw_o rfl (ok_loadBS (k := 0) ti24 rfl rfl rfl) ?_
  refine dw_o rfl (ok_move rfl) ?_
  refine dw_o rfl (ok_loadBS (k := 0) ti24 rfl rfl rfl) ?_
  refine dw_o rfl (ok_move rfl) ?_
  refine dw_o rfl (ok_move rfl) ?_
  refine dw_o rfl (ok_index 0 sl22 rfl rfl (by omega) (by omega)) ?_
  refine dw_o rfl (ok_load ti3 rfl) ?_
  refine dw_o rfl (ok_move rfl) ?_
  refine dw_o rfl (ok_move rfl) ?_
  refine dw_o rfl (ok_index 0 sl22 rfl rfl (by omega) (by omega)) ?_
  refine dw_o rfl (ok_load ti3 rfl) ?_
  refine dw_o rfl (ok_call (rMul_ok f (ix 0 a i) (ix 0 b i) ‹_›) rfl) ?_
  refine dw_o rfl (ok_call (rAdd_ok f (dotTo f a b i.toNat) (mulF f (ix 0 a i) (ix 0 b i)) ‹_›) rfl) ?_
  refine dw_o rfl (ok_assign rfl) ?_
  refine dw_nil ?_
  refine enk K7 ?_
  refine ent_region ?_
  refine emm rfl ?_
  refine ent_o rfl (ok_add rfl rfl (by omega) (by omega)) ?_
  refine emm rfl ?_
  refine ent_nil ?_
  refine ent_again (s := (i)) (i + 1) ⟨(by omega), (by omega)⟩ (by omega) (ent_rep ⟨rfl, rfl, rfl, slot_av (av_int (show addF f (dotTo f a b i.toNat) (mulF f (ix 0 a i) (ix 0 b i)) = dotTo f a b (i + 1).toNat by exact (dotTo_succ f a b h0).symm)), rfl, trivial⟩ rfl)
 refine ent_exit ?_
 refine ent_k K3 ?_
 refine esk rfl ?_
 refine ent_ret ?_
 exact retR1 (.inr rfl) results66 (resr_tmp (res_cv rfl (cv_int (by unfold dotF; congr 1; omega))))
end Go.Proofs.Ytfjhbdfgbpcchaa

