/-
  Walks of functions of the program and the reference.
-/
import Derived.Test.YtfjhbdfgbpcchaaVTab
import Derived.Test.YtfjhbdfgbpcchaaPlainJ1
open Go Go.Cw
namespace Go.Proofs.Ytfjhbdfgbpcchaa
open Try
set_option maxRecDepth 100000
set_option linter.unusedVariables false
set_option linter.unusedSimpArgs false

noncomputable abbrev aGF (f : Fld) : AV := aAt 6 true (aAgg [aInt f.P, aInt f.M, aAny, aInt f.q, aInts f.exps, aInts f.logs])
abbrev aFld (f : Fld) : AV := aAgg [aInt f.P, aInt f.M, aInts f.mod]

theorem order_ok (p m : Int)  : Ctr Try.prog 130 [aInt p, aInt m] (aInt (ordS p m)) := by
 refine ctr_of Try.call130 func130 rfl rfl ?_
 intro w O
 refine esk rfl ?_
 refine ent_seq fun _ K2 => ?_
 refine ent_seq fun _ K3 => ?_
 refine ent_cut (⟨[(0, aInt p), (1, aInt m), (19, aBool (decide ((((p < 2) ∨ (256 < p)) ∨ (m < 1)) ∨ (8 < m))))], []⟩) ?_ ?_
 ·refine ent_region ?_
  refine emm rfl ?_
  refine ent_o rfl (ok_lss rfl rfl) ?_
  refine emm rfl ?_
  refine ent_guardXDf rfl rfl rfl rfl (fun hg8 => ?_) (fun hg8 => ?_)
  ·refine emm rfl ?_
   refine ent_guardXT rfl rfl rfl rfl (decide_eq_false hg8) ?_
   refine ent_o rfl (ok_gtr rfl rfl) ?_
   refine ent_o rfl (ok_pickF rfl (decide_eq_false hg8) rfl) ?_
   refine emm rfl ?_
   refine ent_guardXDf rfl rfl rfl rfl (fun hg12 => ?_) (fun hg12 => ?_)
   ·refine emm rfl ?_
    refine ent_guardXT rfl rfl rfl rfl (decide_eq_false hg12) ?_
    refine ent_o rfl (ok_lss rfl rfl) ?_
    refine ent_o rfl (ok_pickF rfl (decide_eq_false hg12) rfl) ?_
    refine emm rfl ?_
    refine ent_guardXDf rfl rfl rfl rfl (fun hg16 => ?_) (fun hg16 => ?_)
    ·refine emm rfl ?_
     refine ent_guardXT rfl rfl rfl rfl (decide_eq_false hg16) ?_
     refine ent_o rfl (ok_gtr rfl rfl) ?_
     refine ent_o rfl (ok_pickF rfl (decide_eq_false hg16) rfl) ?_
     refine ent_nil ?_
     exact ent_rep ⟨rfl, rfl, slot_bool (dq_Q ((or_iff_right (fun h => h.elim (fun h => h.elim hg8 hg12) hg16)).trans Iff.rfl)), trivial⟩ rfl
    refine ent_guardXF rfl rfl rfl rfl (decide_eq_true hg16) ?_
    refine ent_o rfl (ok_pickT rfl (decide_eq_true hg16) rfl) ?_
    refine ent_nil ?_
    exact ent_rep ⟨rfl, rfl, slot_bool (dq_T rfl (Or.inl (Or.inr hg16))), trivial⟩ rfl
   refine ent_guardXF rfl rfl rfl rfl (decide_eq_true hg12) ?_
   refine ent_o rfl (ok_pickT rfl (decide_eq_true hg12) rfl) ?_
   refine emm rfl ?_
   refine ent_guardXF rfl rfl rfl rfl rfl ?_
   refine ent_guardXF rfl rfl rfl rfl rfl ?_
   refine ent_o rfl (ok_pickT rfl rfl rfl) ?_
   refine ent_nil ?_
   exact ent_rep ⟨rfl, rfl, slot_bool (dq_T rfl (Or.inl (Or.inl (Or.inr hg12)))), trivial⟩ rfl
  refine ent_guardXF rfl rfl rfl rfl (decide_eq_true hg8) ?_
  refine ent_o rfl (ok_pickT rfl (decide_eq_true hg8) rfl) ?_
  refine emm rfl ?_
  refine ent_guardXF rfl rfl rfl rfl rfl ?_
  refine ent_guardXF rfl rfl rfl rfl rfl ?_
  refine ent_o rfl (ok_pickT rfl rfl rfl) ?_
  refine emm rfl ?_
  refine ent_guardXF rfl rfl rfl rfl rfl ?_
  refine ent_guardXF rfl rfl rfl rfl rfl ?_
  refine ent_o rfl (ok_pickT rfl rfl rfl) ?_
  refine ent_nil ?_
  exact ent_rep ⟨rfl, rfl, slot_bool (dq_T rfl (Or.inl (Or.inl (Or.inl hg8)))), trivial⟩ rfl
 refine ent_k K3 ?_
 refine ent_condD rfl (fun h19 => ?_) (fun h19 => ?_)
 ·refine esk rfl ?_
  refine ent_ret ?_
  exact retR1 (.inr rfl) results130 (resr_tmp (res_cv rfl (cv_int (by exact (ordS_bad p m (by omega)).symm))))
 refine esp K2 ?_
 refine esk rfl ?_
 refine ent_seq fun _ K6 => ?_
 refine esk rfl ?_
 refine ent_block ?_
 refine ent_loop (fun (i : Int) => (⟨[(0, aInt p), (5, aInt (p ^ i.toNat)), (20, aInt m), (21, aInt i)], []⟩ : St)) (fun (i : Int) => (0 ≤ i) ∧ (i ≤ m) ∧ (1 ≤ p ^ i.toNat) ∧ (p ^ i.toNat ≤ 256)) (fun (i : Int) => (m - i).toNat) 0 ⟨(by omega), (by omega), (by simp), (by simp)⟩ (ent_rep ⟨rfl, slot_av (av_int (show 1 = p ^ (0 : Int).toNat by simp)), rfl, slot_av (av_int (show 0 = (0 : Int) by rfl)), trivial⟩ rfl) ?_
 rintro i ⟨h0, h1, h2, h3⟩
 show Ent _ ⟨_, []⟩ _
 refine esr rfl fun _ K8 => ?_
 refine ent_o rfl (ok_lss rfl rfl) ?_
 refine enk K8 ?_
 refine ent_seq fun _ K9 => ?_
 refine ent_condD rfl (fun h22 => ?_) (fun h22 => ?_)
 ·have hs := pow_succ_toNat p i h0
  have hm := mul_small (show 0 ≤ p ^ i.toNat by omega) h3 (show 0 ≤ p by omega) (show p ≤ 256 by omega)
  have hq := pow_pos_of p (by omega) (i + 1).toNat
  refine esp K9 ?_
  refine ent_seq fun _ K10 => ?_
  refine ent_block ?_
  refine esr rfl fun _ K11 => ?_
  refine ent_o rfl (ok_mul rfl rfl (by omega) (by omega)) ?_
  refine emm rfl ?_
  refine enk K11 ?_
  refine esr rfl fun _ K12 => ?_
  refine ent_o rfl (ok_gtr rfl rfl) ?_
  refine enk K12 ?_
  refine ent_condD rfl (fun h27 => ?_) (fun h27 => ?_)
  ·refine esk rfl ?_
   refine ent_ret ?_
   exact retR1 (.inr rfl) results130 (resr_tmp (res_cv rfl (cv_int (by exact (ordS_big p m i (by omega) h0 h22 (by rw [hs]; omega)).symm))))
  refine esp K10 ?_
  refine ent_region ?_
  refine ent_o rfl (ok_add rfl rfl (by omega) (by omega)) ?_
  refine emm rfl ?_
  refine ent_nil ?_
  refine ent_again (s := (i)) (i + 1) ⟨(by omega), ‹_›, (by rw [hs]; omega), (by rw [hs]; omega)⟩ (by omega) (ent_rep ⟨rfl, slot_av (av_int (show (p ^ i.toNat) * p = p ^ (i + 1).toNat by rw [hs])), rfl, rfl, trivial⟩ rfl)
 refine ent_exit ?_
 refine ent_k K6 ?_
 refine esk rfl ?_
 refine ent_ret ?_
 exact retR1 (.inr rfl) results130 (resr_tmp (res_cv rfl (cv_int (by rw [show i = m by omega] at h3 ⊢; exact (ordS_ok p m (by omega) (by omega) (by omega) h3).symm))))

theorem isPrime_ok (n : Int) (hn : n ≤ 1000000) : Ctr Try.prog 146 [aInt n] (aBool (isPr n)) := by
 refine ctr_of Try.call146 func146 rfl rfl ?_
 intro w O
 refine esk rfl ?_
 refine ent_seq fun _ K2 => ?_
 refine esk rfl ?_
 refine ent_block ?_
 refine ent_loop (fun (d : Int) => (⟨[(0, aInt n), (3, aInt d)], []⟩ : St)) (fun (d : Int) => (2 ≤ d) ∧ (∀ e : Int, 2 ≤ e → e < d → n % e ≠ 0) ∧ (d = 2 ∨ (d - 1) * (d - 1) ≤ n)) (fun (d : Int) => (1002001 - d).toNat) 2 ⟨(by omega), (fun e h1 h2 => by omega), (.inl rfl)⟩ (ent_rep ⟨rfl, slot_av (av_int (show 2 = (2 : Int) by rfl)), trivial⟩ rfl) ?_
 rintro d ⟨hd2, hd, hr⟩
 show Ent _ ⟨_, []⟩ _
 have hb : d ≤ 1001 ∧ 0 ≤ d * d ∧ d * d ≤ 1002001 := by
    rcases hr with h | h
    ·rw [h]; decide
    exact dd_le hd2 h hn
 refine ent_seq fun _ K4 => ?_
 refine esr rfl fun _ K5 => ?_
 refine ent_o rfl (ok_mul rfl rfl (by omega) (by omega)) ?_
 refine emm rfl ?_
 refine ent_o rfl (ok_leq rfl rfl) ?_
 refine enk K5 ?_
 refine ent_condD rfl (fun h8 => ?_) (fun h8 => ?_)
 ·have hn2 : 2 ≤ n := by have := Int.mul_le_mul hd2 hd2 (by omega) (by omega); omega
  refine esp K4 ?_
  refine ent_seq fun _ K6 => ?_
  refine ent_block ?_
  refine esr rfl fun _ K7 => ?_
  refine ent_o rfl (ok_rem rfl rfl (by omega) (by omega)) ?_
  refine ent_o rfl (ok_eql rfl rfl) ?_
  refine enk K7 ?_
  refine ent_condD rfl (fun h14 => ?_) (fun h14 => ?_)
  ·have hf : isPr n = false := decide_eq_false (fun h => h.2 d hd2 (by have := Int.mul_le_mul_of_nonneg_left hd2 (show 0 ≤ d by omega); omega) h14)
   refine esk rfl ?_
   refine ent_ret ?_
   exact retR1 (.inr rfl) results146 (resr_tmp (res_cv rfl (cv_bool (by exact hf.symm))))
  refine esp K6 ?_
  refine ent_region ?_
  refine emm rfl ?_
  refine ent_o rfl (ok_add rfl rfl (by omega) (by omega)) ?_
  refine emm rfl ?_
  refine ent_nil ?_
  refine ent_again (s := (d)) (d + 1) ⟨(by omega), (fun e h1 h2 => by by_cases he : e = d; (rw [he]; exact h14); exact hd e h1 (by omega)), (.inr (by rw [show d + 1 - 1 = d by omega]; exact h8))⟩ (by omega) (ent_rep ⟨rfl, rfl, trivial⟩ rfl)
 refine ent_exit ?_
 refine ent_k K2 ?_
 refine esr rfl fun _ K9 => ?_
 refine ent_o rfl (ok_geq rfl rfl) ?_
 refine emm rfl ?_
 refine enk K9 ?_
 refine ent_ret ?_
 exact retR1 (.inr rfl) results146 (resr_tmp (res_cv rfl (cv_bool (by exact decide_eq_decide.2 ⟨fun h => ⟨h, noDiv_of_root n d h hd2 hd (by omega)⟩, fun h => h.1⟩))))

theorem digitsOf_ok (x p m : Int) (hx : 0 ≤ x) (hx2 : x ≤ 9223372036854775807) (hp : 2 ≤ p) (hm : 0 ≤ m) (hm2 : m ≤ 1000000) : CtrF Try.prog 156 [aInt x, aInt p, aInt m] (aVec 3 1 false aInt (digS p m.toNat x)) := by
 refine ctrF_of Try.call156 func156 rfl rfl ?_
 intro w O
 refine esk rfl ?_
 refine esr rfl fun _ K2 => ?_
 refine ent_make aInt 0 rfl vt22 rfl rfl (by omega) (by omega) (by omega) (fun _ _ => rfl) (AllV.mem ⟨rfl, trivial⟩) (fun b10_1 => ?_)
 refine emm rfl ?_
 refine enk K2 ?_
 refine ent_seq fun _ K3 => ?_
 refine esr rfl fun _ K4 => ?_
 refine ent_o rfl (ok_lenEx rfl runUnderlying22 rfl) ?_
 refine emm rfl ?_
 refine enk K4 ?_
 refine ent_block ?_
 refine ent_loop (fun (ss : Int × Int × List Int) => match ss with | (i, y, ys) => (⟨[(0, aInt y), (1, aInt p), (7, aEx (vec (some b10_1) ((m).toNat) ((m).toNat))), (12, aInt (↑((m).toNat) : Int)), (13, aInt i)], [oVec (some b10_1) ((m).toNat) 3 1 false aInt (ys ++ List.replicate (m - i).toNat 0)]⟩ : St)) (fun (ss : Int × Int × List Int) => match ss with | (i, y, ys) => (0 ≤ i) ∧ (i ≤ m) ∧ (0 ≤ y) ∧ (y ≤ 9223372036854775807) ∧ (ys.length = i.toNat) ∧ (digS p m.toNat x = ys ++ digS p (m - i).toNat y)) (fun (ss : Int × Int × List Int) => match ss with | (i, y, ys) => (m - i).toNat) (0, x, []) ⟨(by omega), ‹_›, ‹_›, ‹_›, (by simp), (by simp)⟩ (ent_rep ⟨rfl, rfl, rfl, rfl, slot_av (av_int (show 0 = (0 : Int) by rfl)), trivial⟩ (own_cons (own_vec (show [] ++ List.replicate (m - (0 : Int)).toNat 0 = List.replicate ((m).toNat) 0 by simp)) (rfl))) ?_
 rintro ⟨i, y, ys⟩ ⟨h0, h1, hy, hy2, hl, hd⟩
 show Ent _ ⟨_, [_]⟩ _
 have hdv : 0 ≤ y / p ∧ y / p ≤ y := ⟨Int.ediv_nonneg hy (by omega), Int.ediv_le_self _ hy⟩
 have hll : (ys ++ List.replicate (m - i).toNat (0 : Int)).length = m.toNat := by simp [hl]; omega
 refine esr rfl fun _ K5 => ?_
 refine ent_o rfl (ok_lss rfl rfl) ?_
 refine enk K5 ?_
 refine ent_seq fun _ K6 => ?_
 refine ent_condD rfl (fun h14 => ?_) (fun h14 => ?_)
 ·refine esp K6 ?_
  refine ent_seq fun _ K7 => ?_
  refine ent_block ?_
  refine esk rfl ?_
  refine esr rfl fun _ K9 => ?_
  refine ent_o rfl (ok_rem rfl rfl (by omega) (by omega)) ?_
  refine ent_o rfl (ok_indexV sl22 rfl rfl (by omega) (by omega)) ?_
  refine ent_storeV (k := 0) (z := y % p) ti3 rfl rfl rfl (elem_one (one_int _)) (by omega) (by omega) ?_
  refine enk K9 ?_
  refine ent_region ?_
  refine emm rfl ?_
  refine ent_o rfl (ok_quo rfl rfl (by omega) (by omega) (by omega)) ?_
  refine emm rfl ?_
  refine enk K7 ?_
  refine ent_region ?_
  refine ent_o rfl (ok_add rfl rfl (by omega) (by omega)) ?_
  refine emm rfl ?_
  refine ent_nil ?_
  refine ent_again (s := (i, y, ys)) (i + 1, y / p, ys ++ [y % p]) ⟨(by omega), (by omega), (by omega), (by omega), (by rw [List.length_append, hl]; simp; omega), (by rw [hd, digS_step p y (by omega), List.append_assoc]; rfl)⟩ (by dsimp only; omega) (ent_rep ⟨rfl, rfl, rfl, rfl, rfl, trivial⟩ (own_cons (own_vec (show (ys ++ [y % p]) ++ List.replicate (m - (i + 1)).toNat 0 = List.set (ys ++ List.replicate (m - i).toNat 0) (i).toNat (y % p) by exact (append_set_rep 0 _ hl h0 (by omega)).symm)) (rfl)))
 refine ent_exit ?_
 refine ent_k K3 ?_
 refine esk rfl ?_
 refine ent_ret ?_
 exact retR1 (.inr rfl) results156 (resr_tmp (res_cv rfl (cvF_vecV (k := 0) flat_int rfl rfl (by simp_all) (by rw [hd, show (m - i).toNat = 0 by omega]; simp [digS]))))

theorem valueOf_ok (d : List Int) (p : Int) (hp : 2 ≤ p) (hd : ∀ c ∈ d, 0 ≤ c ∧ c < p) (hq : p ^ d.length ≤ 256) : Ctr Try.prog 157 [aSl 1 false aInt d, aInt p] (aInt (valS p d)) := by
 refine ctr_of Try.call157 func157 rfl rfl ?_
 intro w O
 refine ent_len 0 rfl (fun hlen0 => ?_)
 refine esk rfl ?_
 refine esk rfl ?_
 refine ent_seq fun _ K3 => ?_
 refine esr rfl fun _ K4 => ?_
 refine ent_o rfl (ok_len rfl runUnderlying22 rfl) ?_
 refine ent_o rfl (ok_sub rfl rfl (by omega) (by omega)) ?_
 refine emm rfl ?_
 refine enk K4 ?_
 refine ent_block ?_
 refine ent_loop (fun (i : Int) => (⟨[(0, aSl 1 false aInt d), (1, aInt p), (5, aInt (valS p (d.drop (i + 1).toNat))), (6, aInt i)], []⟩ : St)) (fun (i : Int) => (-1 ≤ i) ∧ (i < d.length)) (fun (i : Int) => (i + 1).toNat) ((↑d.length : Int) - 1) ⟨(by omega), (by omega)⟩ (ent_rep ⟨rfl, rfl, slot_av (av_int (show 0 = valS p (d.drop (((↑d.length : Int) - 1) + 1).toNat) by rw [List.drop_of_length_le (by omega)]; rfl)), rfl, trivial⟩ rfl) ?_
 rintro i ⟨h0, h1⟩
 show Ent _ ⟨_, []⟩ _
 have hb := valS_drop_bd hp hd hq (i + 1).toNat
 refine ent_seq fun _ K5 => ?_
 refine esr rfl fun _ K6 => ?_
 refine ent_o rfl (ok_geq rfl rfl) ?_
 refine enk K6 ?_
 refine ent_condD rfl (fun h11 => ?_) (fun h11 => ?_)
 ·have hpb := base_bd hp hq (by omega)
  have hmb := mul_small hb.1 hb.2 (show 0 ≤ p by omega) hpb
  have hix := hd _ (ix_mem 0 d (i := i) (by omega) h1)
  refine esp K5 ?_
  refine ent_seq fun _ K7 => ?_
  refine ent_block ?_
  refine ent_region ?_
  refine emm rfl ?_
  refine ent_o rfl (ok_mul rfl rfl (by omega) (by omega)) ?_
  refine emm rfl ?_
  refine ent_o rfl (ok_index 0 sl22 rfl rfl (by omega) (by omega)) ?_
  refine ent_o rfl (ok_load ti3 rfl) ?_
  refine ent_o rfl (ok_add rfl rfl (by omega) (by omega)) ?_
  refine emm rfl ?_
  refine enk K7 ?_
  refine ent_region ?_
  refine emm rfl ?_
  refine ent_o rfl (ok_sub rfl rfl (by omega) (by omega)) ?_
  refine emm rfl ?_
  refine ent_nil ?_
  refine ent_again (s := (i)) (i - 1) ⟨(by omega), (by omega)⟩ (by omega) (ent_rep ⟨rfl, rfl, slot_av (av_int (show ((valS p (d.drop (i + 1).toNat)) * p) + (ix 0 d i) = valS p (d.drop ((i - 1) + 1).toNat) by rw [show i - 1 + 1 = i by omega]; exact (valS_drop p d (by omega) h1).symm)), rfl, trivial⟩ rfl)
 refine ent_exit ?_
 refine ent_k K3 ?_
 refine esk rfl ?_
 refine ent_ret ?_
 exact retR1 (.inr rfl) results157 (resr_tmp (res_cv rfl (cv_int (by rw [show i = -1 by omega]; rfl))))

theorem multiply_ok (f : Fld) (x y : Int) (hS : Shape f) (hx : 0 ≤ x) (hx2 : x ≤ 1000000) (hy : 0 ≤ y) (hy2 : y ≤ 1000000) : Ctr Try.prog 148 [aFld f, aInt x, aInt y] (aInt (f.R.mulc x y)) := by
 have hb := hS.bd
 have hP := hS.pI
 have hM := hS.mI
 have hMN := hS.mN
 have lx := length_digS f.P f.M.toNat x
 have ly := length_digS f.P f.M.toNat y
 refine ctr_of Try.call148 func148 rfl rfl ?_
 intro w O
 refine ent_lenC 0 2 rfl rfl (fun hlen0_2 => ?_)
 refine esr rfl fun _ K1 => ?_
 refine ent_boxS rfl rfl (AllOne.mem ⟨(one_int _), (one_int _), one_sl, trivial⟩) (fun b3_1 => ?_)
 refine emm rfl ?_
 refine enk K1 ?_
 refine ent_seq fun _ K2 => ?_
 refine ent_draw 14 mixed (by kernel_rfl) (by kernel_rfl) (by kernel_rfl) ?_
 refine dw_o rfl (ok_move rfl) ?_
 refine dw_o rfl (ok_fieldAddrEx runUnderlying24 rfl sizeOf3 (by decide) rfl) ?_
 refine dw_o rfl (ok_loadB (k := 0) isAgg3 rfl rfl rfl) ?_
 refine dw_o rfl (ok_fieldAddrEx runUnderlying24 rfl sizeOf3 (by decide) rfl) ?_
 refine dw_o rfl (ok_loadB (k := 0) isAgg3 rfl rfl rfl) ?_
 refine dw_o rfl (ok_call (CtrF.ctr (CtrF.sl (digitsOf_ok x f.P f.M ‹_› (by omega) (by omega) (by omega) (by omega)))) rfl) ?_
 refine dw_o rfl (ok_move rfl) ?_
 refine dw_o rfl (ok_fieldAddrEx runUnderlying24 rfl sizeOf3 (by decide) rfl) ?_
 refine dw_o rfl (ok_loadB (k := 0) isAgg3 rfl rfl rfl) ?_
 refine dw_o rfl (ok_fieldAddrEx runUnderlying24 rfl sizeOf3 (by decide) rfl) ?_
 refine dw_o rfl (ok_loadB (k := 0) isAgg3 rfl rfl rfl) ?_
 refine dw_o rfl (ok_call (CtrF.ctr (CtrF.sl (digitsOf_ok y f.P f.M ‹_› (by omega) (by omega) (by omega) (by omega)))) rfl) ?_
 refine dw_o rfl (ok_assign rfl) ?_
 refine dw_o rfl (ok_assign rfl) ?_
 refine dw_nil ?_
 refine enk K2 ?_
 refine esr rfl fun _ K3 => ?_
 refine ent_o rfl (ok_fieldAddrEx runUnderlying24 rfl sizeOf3 (by decide) rfl) ?_
 refine ent_o rfl (ok_loadB (k := 0) isAgg3 rfl rfl rfl) ?_
 refine ent_make aInt 0 rfl vt22 rfl rfl (by omega) (by omega) (by omega) (fun _ _ => rfl) (AllV.mem ⟨rfl, trivial⟩) (fun b28_2 => ?_)
 refine emm rfl ?_
 refine enk K3 ?_
 refine ent_seq fun _ K4 => ?_
 refine esr rfl fun _ K5 => ?_
 refine ent_o rfl (ok_fieldAddrEx runUnderlying24 rfl sizeOf3 (by decide) rfl) ?_
 refine ent_o rfl (ok_loadB (k := 1) isAgg3 rfl rfl rfl) ?_
 refine ent_o rfl (ok_sub rfl rfl (by omega) (by omega)) ?_
 refine emm rfl ?_
 refine enk K5 ?_
 refine ent_block ?_
 refine ent_loop (fun (ss : Int × f.R.V) => match ss with | (i, H) => (⟨[(3, aEx (.pointer (some ⟨b3_1, 0, none⟩))), (7, aSl 1 false aInt (digS f.P f.M.toNat x)), (8, aSl 1 false aInt (digS f.P f.M.toNat y)), (9, aEx (vec (some b28_2) ((f.M).toNat) ((f.M).toNat))), (10, aInt i)], [oVec (some b28_2) ((f.M).toNat) 3 1 false aInt (dl f.R.m H), oBox b3_1 24 [aInt f.P, aInt f.M, aSl 1 false aInt f.mod]]⟩ : St)) (fun (ss : Int × f.R.V) => match ss with | (i, H) => (-1 ≤ i) ∧ (i ≤ f.M - 1) ∧ (H = f.R.hor (f.R.elt y) (f.R.elt x) (f.M - 1 - i).toNat)) (fun (ss : Int × f.R.V) => match ss with | (i, H) => (i + 1).toNat) (f.M - 1, f.R.vzero) ⟨(by omega), (by omega), (by rw [show (f.M - 1 - (f.M - 1)).toNat = 0 by omega]; rfl)⟩ (ent_rep ⟨rfl, rfl, rfl, rfl, rfl, trivial⟩ (own_cons (own_vec (show dl f.R.m f.R.vzero = List.replicate ((f.M).toNat) 0 by rw [← hMN]; exact dl_zero f.R.m)) (rfl))) ?_
 rintro ⟨i, H⟩ ⟨h0, h1, hH⟩
 show Ent _ ⟨_, [_, _]⟩ _
 have hHe : f.R.El H := by rw [hH]; exact Rg.hor_el f.R _ _ (Rg.elt_el f.R x) _
 have lH := length_dl f.R.m H
 refine ent_seq fun _ K6 => ?_
 refine esr rfl fun _ K7 => ?_
 refine ent_o rfl (ok_geq rfl rfl) ?_
 refine enk K7 ?_
 refine ent_condD rfl (fun h33 => ?_) (fun h33 => ?_)
 ·refine esp K6 ?_
  refine ent_seq fun _ K8 => ?_
  refine ent_block ?_
  refine esr rfl fun _ K9 => ?_
  refine ent_o rfl (ok_fieldAddrEx runUnderlying24 rfl sizeOf3 (by decide) rfl) ?_
  refine ent_o rfl (ok_loadB (k := 1) isAgg3 rfl rfl rfl) ?_
  refine ent_o rfl (ok_sub rfl rfl (by omega) (by omega)) ?_
  refine ent_o rfl (ok_indexV sl22 rfl rfl (by omega) (by omega)) ?_
  refine ent_o rfl (ok_loadV (k := 0) 0 ti3 rfl rfl (by omega) (by omega)) ?_
  refine emm rfl ?_
  refine enk K9 ?_
  refine ent_seq fun _ K10 => ?_
  refine ent_draw 7 mixed (by kernel_rfl) (by kernel_rfl) (by kernel_rfl) ?_
  refine dw_o rfl (ok_move rfl) ?_
  refine dw_o rfl (ok_subFrom sl22 rfl rfl (by omega) (by omega) (by omega)) ?_
  refine dw_o rfl (ok_move rfl) ?_
  refine dw_o rfl (ok_fieldAddrEx runUnderlying24 rfl sizeOf3 (by decide) rfl) ?_
  refine dw_o rfl (ok_loadB (k := 1) isAgg3 rfl rfl rfl) ?_
  refine dw_o rfl (ok_sub rfl rfl (by omega) (by omega)) ?_
  refine dw_o rfl (ok_subTo sl22 rfl rfl (by omega) (by omega)) ?_
  refine dw_nil ?_
  refine ent_copyV (k := 0) ((f.M - 1).toNat) vt22 rfl rfl rfl rfl (by omega) (by omega) (by omega) (by omega) (by simp only [Nat.min_def]; split <;> omega) ?_
  refine enk K10 ?_
  refine esr rfl fun _ K11 => ?_
  refine ent_o rfl (ok_indexV sl22 rfl rfl (by omega) (by omega)) ?_
  refine ent_storeV (k := 0) (z := 0) ti3 rfl rfl rfl (elem_one (one_int _)) (by omega) (by simp; omega) ?_
  refine enk K11 ?_
  refine esr rfl fun _ K12 => ?_
  refine ent_o rfl (ok_lenEx rfl runUnderlying22 rfl) ?_
  refine emm rfl ?_
  refine enk K12 ?_
  refine ent_block ?_
  refine ent_loop (fun (j : Int) => (⟨[(3, aEx (.pointer (some ⟨b3_1, 0, none⟩))), (7, aSl 1 false aInt (digS f.P f.M.toNat x)), (8, aSl 1 false aInt (digS f.P f.M.toNat y)), (9, aEx (vec (some b28_2) ((f.M).toNat) ((f.M).toNat))), (10, aInt i), (11, aInt (ix 0 (dl f.R.m H) (f.M - 1))), (53, aInt (↑((f.M).toNat) : Int)), (54, aInt j)], [oVec (some b28_2) ((f.M).toNat) 3 1 false aInt (dl f.R.m (f.R.hstep H (f.R.elt x) (f.R.elt y i.toNat) j.toNat)), oBox b3_1 24 [aInt f.P, aInt f.M, aSl 1 false aInt f.mod]]⟩ : St)) (fun (j : Int) => (0 ≤ j) ∧ (j ≤ f.M)) (fun (j : Int) => (f.M - j).toNat) 0 ⟨(by omega), (by omega)⟩ (ent_rep ⟨rfl, rfl, rfl, rfl, rfl, rfl, rfl, slot_av (av_int (show 0 = (0 : Int) by rfl)), trivial⟩ (own_cons (own_vec (show dl f.R.m (f.R.hstep H (f.R.elt x) (f.R.elt y i.toNat) (0 : Int).toNat) = List.set ((List.take 1 (dl f.R.m H) ++ List.take ((f.M - 1).toNat) (List.drop 0 (dl f.R.m H))) ++ List.drop (1 + ((f.M - 1).toNat)) (dl f.R.m H)) 0 0 by rw [show ((0 : Int)).toNat = 0 from rfl, Rg.hstep_zero, ← dl_shift _ (by omega), List.drop_zero, show 1 + (f.M - 1).toNat = f.R.m by omega, show (f.M - 1).toNat = f.R.m - 1 by omega])) (rfl))) ?_
  rintro j ⟨j0, j1⟩
  show Ent _ ⟨_, [_, _]⟩ _
  have lV := length_dl f.R.m (f.R.hstep H (f.R.elt x) (f.R.elt y i.toNat) j.toNat)
  refine esr rfl fun _ K13 => ?_
  refine ent_o rfl (ok_lss rfl rfl) ?_
  refine enk K13 ?_
  refine ent_seq fun _ K14 => ?_
  refine ent_condD rfl (fun h55 => ?_) (fun h55 => ?_)
  ·have hmod : 1 < f.M → j < f.mod.length := fun h => by have := (hS.mod_len h).1; omega
   have hjm : j < f.M := by omega
   have him : i < f.M := by omega
   have hst := hS.step x y H hHe h33 him j0 hjm
   have hbd := hS.step_bd H (f.R.hstep H (f.R.elt x) (f.R.elt y i.toNat) j.toNat) x y h33 him j0 hjm
   refine esp K14 ?_
   refine ent_seq fun _ K15 => ?_
   refine ent_block ?_
   refine esk rfl ?_
   refine esk rfl ?_
   refine ent_seq fun _ K18 => ?_
   refine esr rfl fun _ K19 => ?_
   refine ent_o rfl (ok_fieldAddrEx runUnderlying24 rfl sizeOf3 (by decide) rfl) ?_
   refine ent_o rfl (ok_loadB (k := 1) isAgg3 rfl rfl rfl) ?_
   refine ent_o rfl (ok_gtr rfl rfl) ?_
   refine enk K19 ?_
   refine ent_cut (⟨[(3, aEx (.pointer (some ⟨b3_1, 0, none⟩))), (7, aSl 1 false aInt (digS f.P f.M.toNat x)), (8, aSl 1 false aInt (digS f.P f.M.toNat y)), (9, aEx (vec (some b28_2) ((f.M).toNat) ((f.M).toNat))), (10, aInt i), (11, aInt (ix 0 (dl f.R.m H) (f.M - 1))), (12, aInt j), (13, aInt (lowF f j)), (53, aInt (↑((f.M).toNat) : Int)), (54, aInt j)], [oVec (some b28_2) ((f.M).toNat) 3 1 false aInt (dl f.R.m (f.R.hstep H (f.R.elt x) (f.R.elt y i.toNat) j.toNat)), oBox b3_1 24 [aInt f.P, aInt f.M, aSl 1 false aInt f.mod]]⟩) ?_ ?_
   ·refine ent_condD rfl (fun h59 => ?_) (fun h59 => ?_)
    ·refine ent_region ?_
     refine ent_o rfl (ok_fieldAddrEx runUnderlying24 rfl sizeOf22 (by decide) rfl) ?_
     refine ent_o rfl (ok_loadB (k := 1) isAgg22 rfl rfl rfl) ?_
     refine emm rfl ?_
     refine ent_o rfl (ok_index 0 sl22 rfl rfl (by omega) (by omega)) ?_
     refine ent_o rfl (ok_load ti3 rfl) ?_
     refine emm rfl ?_
     refine ent_nil ?_
     exact ent_rep ⟨rfl, rfl, rfl, rfl, rfl, rfl, rfl, slot_av (av_int (show ix 0 f.mod j = lowF f j by unfold lowF; first | (rw [if_pos h59]) | (rw [if_neg h59]))), rfl, rfl, trivial⟩ rfl
    refine ent_skip ?_
    exact ent_rep ⟨rfl, rfl, rfl, rfl, rfl, rfl, rfl, slot_av (av_int (show 0 = lowF f j by unfold lowF; first | (rw [if_pos h59]) | (rw [if_neg h59]))), rfl, rfl, trivial⟩ rfl
   refine ent_k K18 ?_
   refine ent_draw 27 mixed (by kernel_rfl) (drawQ_F (by kernel_rfl)) (by kernel_rfl) ?_
   refine dw_o rfl (ok_move rfl) ?_
   refine dw_o rfl (ok_move rfl) ?_
   refine dw_o rfl (ok_move rfl) ?_
   refine dw_o rfl (ok_move rfl) ?_
   refine dw_o rfl (ok_indexV sl22 rfl rfl (by omega) (by omega)) ?_
   refine dw_o rfl (ok_loadV (k := 0) 0 ti3 rfl rfl (by omega) (by omega)) ?_
   refine dw_o rfl (ok_fieldAddrEx runUnderlying24 rfl sizeOf3 (by decide) rfl) ?_
   refine dw_o rfl (ok_loadB (k := 1) isAgg3 rfl rfl rfl) ?_
   refine dw_o rfl (ok_move rfl) ?_
   refine dw_o rfl (ok_sub rfl rfl (by omega) (by omega)) ?_
   refine dw_o rfl (ok_move rfl) ?_
   refine dw_o rfl (ok_mul rfl rfl (by omega) (by omega)) ?_
   refine dw_o rfl (ok_add rfl rfl (by omega) (by omega)) ?_
   refine dw_o rfl (ok_move rfl) ?_
   refine dw_o rfl (ok_move rfl) ?_
   refine dw_o rfl (ok_index 0 sl22 rfl rfl (by omega) (by omega)) ?_
   refine dw_o rfl (ok_load ti3 rfl) ?_
   refine dw_o rfl (ok_move rfl) ?_
   refine dw_o rfl (ok_move rfl) ?_
   refine dw_o rfl (ok_index 0 sl22 rfl rfl (by omega) (by omega)) ?_
   refine dw_o rfl (ok_load ti3 rfl) ?_
   refine dw_o rfl (ok_mul rfl rfl (by omega) (by omega)) ?_
   refine dw_o rfl (ok_add rfl rfl (by omega) (by omega)) ?_
   refine dw_o rfl (ok_fieldAddrEx runUnderlying24 rfl sizeOf3 (by decide) rfl) ?_
   refine dw_o rfl (ok_loadB (k := 1) isAgg3 rfl rfl rfl) ?_
   refine dw_o rfl (ok_rem rfl rfl (by omega) (by omega)) ?_
   refine dw_o rfl (ok_indexV sl22 rfl rfl (by omega) (by omega)) ?_
   refine dw_nil ?_
   refine ent_storeV (k := 0) (z := (((ix 0 (dl f.R.m (f.R.hstep H (f.R.elt x) (f.R.elt y i.toNat) j.toNat)) j) + ((f.P - (ix 0 (dl f.R.m H) (f.M - 1))) * (lowF f j))) + ((ix 0 (digS f.P f.M.toNat y) i) * (ix 0 (digS f.P f.M.toNat x) j))) % f.P) ti3 rfl rfl rfl (elem_one (one_int _)) (by omega) (by omega) ?_
   refine enk K15 ?_
   refine ent_region ?_
   refine ent_o rfl (ok_add rfl rfl (by omega) (by omega)) ?_
   refine emm rfl ?_
   refine ent_nil ?_
   refine ent_again (s := (j)) (j + 1) ⟨(by omega), ‹_›⟩ (by omega) (ent_rep ⟨rfl, rfl, rfl, rfl, rfl, rfl, rfl, rfl, trivial⟩ (own_cons (own_vec (show dl f.R.m (f.R.hstep H (f.R.elt x) (f.R.elt y i.toNat) (j + 1).toNat) = List.set (dl f.R.m (f.R.hstep H (f.R.elt x) (f.R.elt y i.toNat) j.toNat)) (j).toNat ((((ix 0 (dl f.R.m (f.R.hstep H (f.R.elt x) (f.R.elt y i.toNat) j.toNat)) j) + ((f.P - (ix 0 (dl f.R.m H) (f.M - 1))) * (lowF f j))) + ((ix 0 (digS f.P f.M.toNat y) i) * (ix 0 (digS f.P f.M.toNat x) j))) % f.P) by exact hst.2.symm)) (rfl)))
  refine ent_exit ?_
  refine ent_k K8 ?_
  refine ent_region ?_
  refine emm rfl ?_
  refine ent_o rfl (ok_sub rfl rfl (by omega) (by omega)) ?_
  refine emm rfl ?_
  refine ent_nil ?_
  refine ent_again (s := (i, H)) (i - 1, f.R.vadd (f.R.T H) (f.R.smul (f.R.elt y i.toNat) (f.R.elt x))) ⟨(by omega), (by omega), (by rw [show (f.M - 1 - (i - 1)).toNat = (f.M - 1 - i).toNat + 1 by omega, hH]; show _ = f.R.vadd _ (f.R.smul (f.R.elt y (f.R.m - 1 - (f.M - 1 - i).toNat)) _); rw [show f.R.m - 1 - (f.M - 1 - i).toNat = i.toNat by omega])⟩ (by dsimp only; omega) (ent_rep ⟨rfl, rfl, rfl, rfl, rfl, trivial⟩ (own_cons (own_vec (show dl f.R.m (f.R.vadd (f.R.T H) (f.R.smul (f.R.elt y i.toNat) (f.R.elt x))) = dl f.R.m (f.R.hstep H (f.R.elt x) (f.R.elt y i.toNat) j.toNat) by rw [show j = f.M by omega, ← hMN, Rg.hstep_all])) (rfl)))
 have hmem : ∀ c ∈ dl f.R.m H, 0 ≤ c ∧ c < f.P := by rw [← hP]; exact Rg.dl_mem f.R.m H
 have hpq : f.P ^ (dl f.R.m H).length ≤ 256 := by rw [lH, hMN]; omega
 refine ent_exit ?_
 refine ent_k K4 ?_
 refine esr rfl fun _ K20 => ?_
 refine ent_o rfl (ok_fieldAddrEx runUnderlying24 rfl sizeOf3 (by decide) rfl) ?_
 refine ent_o rfl (ok_loadB (k := 1) isAgg3 rfl rfl rfl) ?_
 refine ent_o rfl (ok_callP [0] (by exact pl_ex) (valueOf_ok (dl f.R.m H) f.P (by omega) ‹_› ‹_›) ⟨arg_a rfl (cv_vec (k := 0) (off_lent rfl (by decide)) (by simp_all) rfl), arg_a rfl (cv_id (sub_lent _)), trivial⟩) ?_
 refine emm rfl ?_
 refine enk K20 ?_
 refine ent_ret ?_
 exact retR1 (.inr rfl) results148 (resr_tmp (res_cv rfl (cv_int (by show _ = valS (f.p : Int) (dl f.R.m (f.R.mul (f.R.elt y) (f.R.elt x))); rw [← Rg.hor_m, hH, hP, show (f.M - 1 - i).toNat = f.R.m by omega]))))

theorem powers_ok (f : Fld) (x : Int) (hS : Shape f) (hx : 1 ≤ x) (hx2 : x < f.q) : CtrF Try.prog 147 [aFld f, aInt f.q, aInt x] (aVec 3 1 false aInt (f.R.pl x (f.R.stopK x))) := by
 have hb := hS.bd
 have hC := hS.card
 refine ctrF_of Try.call147 func147 rfl rfl ?_
 intro w O
 refine ent_lenC 0 2 rfl rfl (fun hlen0_2 => ?_)
 refine esr rfl fun _ K1 => ?_
 refine ent_boxS rfl rfl (AllOne.mem ⟨(one_int _), (one_int _), one_sl, trivial⟩) (fun b3_1 => ?_)
 refine emm rfl ?_
 refine enk K1 ?_
 refine esr rfl fun _ K2 => ?_
 refine ent_buildN aInt [1] rfl vt22 (by decide) (⟨0, 1, rfl, .inl ⟨rfl, _, rfl, (one_int _), rfl, rfl⟩⟩) rfl (fun b10_2 => ?_)
 refine emm rfl ?_
 refine enk K2 ?_
 refine esr rfl fun _ K3 => ?_
 refine ent_make aBool false rfl vt102 rfl rfl (by omega) (by omega) (by omega) (fun _ _ => rfl) (AllV.mem ⟨rfl, trivial⟩) (fun b12_3 => ?_)
 refine emm rfl ?_
 refine enk K3 ?_
 refine esr rfl fun _ K4 => ?_
 refine ent_o rfl (ok_indexV sl102 rfl rfl (by omega) (by omega)) ?_
 refine ent_storeV (k := 0) (z := true) ti4 rfl rfl rfl (elem_one (one_bool _)) (by omega) (by simp; omega) ?_
 refine enk K4 ?_
 refine ent_seq fun _ K5 => ?_
 refine esk rfl ?_
 refine ent_block ?_
 refine ent_loop (fun (ss : Nat × Option Nat × Nat) => match ss with | (k, rr4, cc4) => (⟨[(2, aInt x), (3, aEx (.pointer (some ⟨b3_1, 0, none⟩))), (7, aEx (vec rr4 ((f.R.pl x k).length) cc4)), (8, aEx (vec (some b12_3) ((f.q).toNat) ((f.q).toNat))), (9, aInt (f.R.powc x k))], [oVec (some b12_3) ((f.q).toNat) 4 1 false aBool (mapR (fun c => decide (c ∈ f.R.pl x k)) f.q), oVec rr4 cc4 3 1 false aInt (f.R.pl x k), oBox b3_1 24 [aInt f.P, aInt f.M, aSl 1 false aInt f.mod]]⟩ : St)) (fun (ss : Nat × Option Nat × Nat) => match ss with | (k, rr4, cc4) => (1 ≤ k) ∧ (∀ j, 1 ≤ j → j < k → ¬ f.R.Halt x j)) (fun (ss : Nat × Option Nat × Nat) => match ss with | (k, rr4, cc4) => f.q.toNat - k) (1, (some b10_2), 1) ⟨(by omega), (fun j h1 h2 => by omega)⟩ (ent_rep ⟨rfl, rfl, slot_av (av_vec rfl), rfl, slot_av (av_int (show x = f.R.powc x 1 by exact (Rg.powc_one f.R (by omega) (by omega)).symm)), trivial⟩ (own_cons (own_vec (show mapR (fun c => decide (c ∈ f.R.pl x 1)) f.q = List.set (List.replicate ((f.q).toNat) false) 1 true by exact Rg.seen_zero f.R _ _)) (own_cons (own_vec (show f.R.pl x 1 = [1] by unfold Rg.pl; simp [Rg.powc_zero, Rg.powc, Rg.num_e0])) (rfl)))) ?_
 rintro ⟨k, rr4, cc4⟩ ⟨k1, hm⟩
 show Ent _ ⟨_, [_, _, _]⟩ _
 have hy := Rg.powc_lt f.R x k
 rw [hC] at hy
 have hsh := Rg.pl_short f.R hm
 have lp := Rg.length_pl f.R x k
 have lsn := length_mapR (fun c => decide (c ∈ f.R.pl x k)) f.q
 refine ent_seq fun _ K7 => ?_
 refine ent_seq fun _ K8 => ?_
 refine ent_cut (⟨[(2, aInt x), (3, aEx (.pointer (some ⟨b3_1, 0, none⟩))), (7, aEx (vec rr4 ((f.R.pl x k).length) cc4)), (8, aEx (vec (some b12_3) ((f.q).toNat) ((f.q).toNat))), (9, aInt (f.R.powc x k)), (24, aBool (decide (((f.R.powc x k) ≠ 0) ∧ ((!(ix false (mapR (fun c => decide (c ∈ f.R.pl x k)) f.q) (f.R.powc x k))) = true))))], [oVec (some b12_3) ((f.q).toNat) 4 1 false aBool (mapR (fun c => decide (c ∈ f.R.pl x k)) f.q), oVec rr4 cc4 3 1 false aInt (f.R.pl x k), oBox b3_1 24 [aInt f.P, aInt f.M, aSl 1 false aInt f.mod]]⟩) ?_ ?_
 ·refine ent_region ?_
  refine emm rfl ?_
  refine ent_o rfl (ok_neq rfl rfl) ?_
  refine emm rfl ?_
  refine ent_guardXDt rfl rfl rfl rfl (fun hg18 => ?_) (fun hg18 => ?_)
  ·refine emm rfl ?_
   refine ent_guardXT rfl rfl rfl rfl (decide_eq_true hg18) ?_
   refine emm rfl ?_
   refine ent_guardXT rfl rfl rfl rfl (decide_eq_true hg18) ?_
   refine ent_o rfl (ok_indexV sl102 rfl rfl (by omega) (by omega)) ?_
   refine ent_guardXT rfl rfl rfl rfl (decide_eq_true hg18) ?_
   refine ent_o rfl (ok_loadV (k := 0) false ti4 rfl rfl (by omega) (by omega)) ?_
   refine ent_guardXT rfl rfl rfl rfl (decide_eq_true hg18) ?_
   refine ent_o rfl (ok_not rfl) ?_
   refine ent_o rfl (ok_pickT rfl (decide_eq_true hg18) rfl) ?_
   refine ent_nil ?_
   exact ent_rep ⟨rfl, rfl, rfl, rfl, rfl, slot_bool (dq_B ((and_iff_right hg18).trans Iff.rfl)), trivial⟩ rfl
  refine ent_guardXF rfl rfl rfl rfl (decide_eq_false hg18) ?_
  refine ent_guardXF rfl rfl rfl rfl (decide_eq_false hg18) ?_
  refine ent_guardXF rfl rfl rfl rfl (decide_eq_false hg18) ?_
  refine ent_guardXF rfl rfl rfl rfl (decide_eq_false hg18) ?_
  refine ent_o rfl (ok_pickF rfl (decide_eq_false hg18) rfl) ?_
  refine ent_nil ?_
  exact ent_rep ⟨rfl, rfl, rfl, rfl, rfl, slot_bool (dq_F rfl (fun h => hg18 h.1)), trivial⟩ rfl
 refine ent_k K8 ?_
 refine ent_condD rfl (fun h24 => ?_) (fun h24 => ?_)
 ·have hix : ix false (mapR (fun c => decide (c ∈ f.R.pl x k)) f.q) (f.R.powc x k) = decide (f.R.powc x k ∈ f.R.pl x k) := ix_mapR false _ hy.1 hy.2
  have hnh : ¬ f.R.Halt x k := by rintro (h | h); exact h24.1 h; rw [hix, decide_eq_true h] at h24; exact absurd h24.2 (by decide)
  refine esp K7 ?_
  refine ent_seq fun _ K9 => ?_
  refine ent_block ?_
  refine esr rfl fun _ K10 => ?_
  refine ent_o rfl (ok_indexV sl102 rfl rfl (by omega) (by omega)) ?_
  refine ent_storeV (k := 0) (z := true) ti4 rfl rfl rfl (elem_one (one_bool _)) (by omega) (by omega) ?_
  refine enk K10 ?_
  refine ent_region ?_
  refine emm rfl ?_
  refine ent_appendL (k := 1) (enc := aInt) (y := f.R.powc x k) rfl rfl vt22 rfl rfl rfl rfl ((elem_one (one_int _))) (by omega) (by omega) (by decide) (fun b35_5 c35_5 => ?_)
  refine emm rfl ?_
  refine enk K9 ?_
  refine ent_region ?_
  refine ent_o rfl (ok_loadBS (k := 2) ti24 rfl rfl rfl) ?_
  refine emm rfl ?_
  refine ent_o rfl (ok_call (multiply_ok f (f.R.powc x k) x ‹_› (by omega) (by omega) (by omega) (by omega)) rfl) ?_
  refine emm rfl ?_
  refine ent_nil ?_
  refine ent_again (s := (k, rr4, cc4)) (k + 1, (some b35_5), c35_5) ⟨(by omega), (fun j h1 h2 => by by_cases hj : j = k; (rw [hj]; exact hnh); exact hm j h1 (by omega))⟩ (by dsimp only; omega) (ent_rep ⟨rfl, rfl, slot_av (av_vec (congrArg List.length (show f.R.pl x (k + 1) = (f.R.pl x k) ++ [f.R.powc x k] by exact Rg.pl_succ f.R x k).symm)), rfl, slot_av (av_int (show f.R.mulc (f.R.powc x k) x = f.R.powc x (k + 1) by rfl)), trivial⟩ (own_cons (own_vec (show mapR (fun c => decide (c ∈ f.R.pl x (k + 1))) f.q = List.set (mapR (fun c => decide (c ∈ f.R.pl x k)) f.q) (f.R.powc x k).toNat true by exact (Rg.seen_succ f.R _ _ _).symm)) (own_cons (own_vec (show f.R.pl x (k + 1) = (f.R.pl x k) ++ [f.R.powc x k] by exact Rg.pl_succ f.R x k)) (rfl))))
 have hix : ix false (mapR (fun c => decide (c ∈ f.R.pl x k)) f.q) (f.R.powc x k) = decide (f.R.powc x k ∈ f.R.pl x k) := ix_mapR false _ hy.1 hy.2
 have hst : f.R.StopAt x k := ⟨k1, by by_cases hz : f.R.powc x k = 0; exact .inl hz; exact .inr (by by_cases hp : f.R.powc x k ∈ f.R.pl x k; exact hp; exact absurd ⟨hz, by rw [hix, decide_eq_false hp]; rfl⟩ h24), hm⟩
 refine ent_exit ?_
 refine ent_k K5 ?_
 refine esk rfl ?_
 refine ent_ret ?_
 exact retR1 (.inr rfl) results147 (resr_tmp (res_cv rfl (cvF_vecV (k := 1) flat_int rfl rfl rfl (by rw [Rg.stopK_eq f.R hst]))))

theorem generator_ok (f : Fld) (hS : Shape f) (hG : f.R.HasGen) : CtrF Try.prog 131 [aFld f, aInt f.q] (aVec 3 1 false aInt f.exps) := by
 have hb := hS.bd
 have hC := hS.card
 refine ctrF_of Try.call131 func131 rfl rfl ?_
 intro w O
 refine ent_lenC 0 2 rfl rfl (fun hlen0_2 => ?_)
 refine esr rfl fun _ K1 => ?_
 refine ent_boxS rfl rfl (AllOne.mem ⟨(one_int _), (one_int _), one_sl, trivial⟩) (fun b2_1 => ?_)
 refine emm rfl ?_
 refine enk K1 ?_
 refine ent_seq fun _ K2 => ?_
 refine esk rfl ?_
 refine ent_block ?_
 refine ent_loop (fun (x : Int) => (⟨[(1, aInt f.q), (2, aEx (.pointer (some ⟨b2_1, 0, none⟩))), (5, aInt x)], [oBox b2_1 24 [aInt f.P, aInt f.M, aSl 1 false aInt f.mod]]⟩ : St)) (fun (x : Int) => (1 ≤ x) ∧ (x ≤ f.q) ∧ (∀ y, 1 ≤ y → y < x → ¬ f.R.Good y)) (fun (x : Int) => (f.q - x).toNat) 1 ⟨(by omega), (by omega), (fun y h1 h2 => by omega)⟩ (ent_rep ⟨rfl, rfl, slot_av (av_int (show 1 = (1 : Int) by rfl)), trivial⟩ rfl) ?_
 rintro x ⟨x1, x2, hno⟩
 show Ent _ ⟨_, [_]⟩ _
 have hsp := Rg.stopK_spec f.R x
 have lp := Rg.length_pl f.R x (f.R.stopK x)
 have hk1 := hsp.pos
 refine ent_seq fun _ K4 => ?_
 refine esr rfl fun _ K5 => ?_
 refine ent_o rfl (ok_lss rfl rfl) ?_
 refine enk K5 ?_
 refine ent_condD rfl (fun h9 => ?_) (fun h9 => ?_)
 ·refine esp K4 ?_
  refine ent_seq fun _ K6 => ?_
  refine ent_block ?_
  refine esr rfl fun _ K7 => ?_
  refine ent_o rfl (ok_loadBS (k := 0) ti24 rfl rfl rfl) ?_
  refine emm rfl ?_
  refine ent_callV [] rfl (powers_ok f x ‹_› ‹_› ‹_›) (ArgsA.ok ⟨arg_a rfl (cv_id (sub_lent _)), arg_a rfl (cv_id (sub_lent _)), arg_a rfl (cv_id (sub_lent _)), trivial⟩) (fun r15 c15 => ?_)
  refine ent_rsome 0 rfl (by omega) (fun b15_2 hb15_2 => ?_)
  subst hb15_2
  refine emm rfl ?_
  refine enk K7 ?_
  refine ent_seq fun _ K8 => ?_
  refine ent_cut (⟨[(1, aInt f.q), (2, aEx (.pointer (some ⟨b2_1, 0, none⟩))), (5, aInt x), (6, aEx (vec (some b15_2) ((f.R.pl x (f.R.stopK x)).length) c15)), (31, aBool (decide (((↑((f.R.pl x (f.R.stopK x)).length) : Int) = (f.q - 1)) ∧ ((f.R.mulc (ix 0 (f.R.pl x (f.R.stopK x)) (f.q - 2)) x) = 1))))], [oVec (some b15_2) c15 3 1 false aInt (f.R.pl x (f.R.stopK x)), oBox b2_1 24 [aInt f.P, aInt f.M, aSl 1 false aInt f.mod]]⟩) ?_ ?_
  ·refine ent_draw 16 mixed (by kernel_rfl) (by kernel_rfl) (by kernel_rfl) ?_
   refine dw_o rfl (ok_move rfl) ?_
   refine dw_o rfl (ok_lenEx rfl runUnderlying22 rfl) ?_
   refine dw_o rfl (ok_move rfl) ?_
   refine dw_o rfl (ok_sub rfl rfl (by omega) (by omega)) ?_
   refine dw_o rfl (ok_eql rfl rfl) ?_
   refine dw_o rfl (ok_move rfl) ?_
   refine dw_guardDt rfl rfl rfl rfl (fun hg21 => ?_) (fun hg21 => ?_)
   ·refine dw_o rfl (ok_loadBS (k := 1) ti24 rfl rfl rfl) ?_
    refine dw_guardT rfl rfl rfl rfl (decide_eq_true hg21) ?_
    refine dw_o rfl (ok_move rfl) ?_
    refine dw_guardT rfl rfl rfl rfl (decide_eq_true hg21) ?_
    refine dw_o rfl (ok_move rfl) ?_
    refine dw_guardT rfl rfl rfl rfl (decide_eq_true hg21) ?_
    refine dw_o rfl (ok_sub rfl rfl (by omega) (by omega)) ?_
    refine dw_guardT rfl rfl rfl rfl (decide_eq_true hg21) ?_
    have hpl := Rg.ix_pl f.R x (n := f.R.stopK x) (k := f.q - 2) (by omega) (by omega)
    have hpb := Rg.powc_lt f.R x (f.q - 2).toNat
    rw [hC] at hpb
    refine dw_o rfl (ok_indexV sl22 rfl rfl (by omega) (by omega)) ?_
    refine dw_guardT rfl rfl rfl rfl (decide_eq_true hg21) ?_
    refine dw_o rfl (ok_loadV (k := 0) 0 ti3 rfl rfl (by omega) (by omega)) ?_
    refine dw_guardT rfl rfl rfl rfl (decide_eq_true hg21) ?_
    refine dw_o rfl (ok_move rfl) ?_
    refine dw_guardT rfl rfl rfl rfl (decide_eq_true hg21) ?_
    refine dw_o rfl (ok_call (multiply_ok f (ix 0 (f.R.pl x (f.R.stopK x)) (f.q - 2)) x ‹_› (by omega) (by omega) (by omega) (by omega)) rfl) ?_
    refine dw_guardT rfl rfl rfl rfl (decide_eq_true hg21) ?_
    refine dw_o rfl (ok_eql rfl rfl) ?_
    refine dw_o rfl (ok_pickT rfl (decide_eq_true hg21) rfl) ?_
    refine dw_nil ?_
    refine ent_nil ?_
    exact ent_rep ⟨rfl, rfl, rfl, rfl, slot_bool (dq_Q ((and_iff_right hg21).trans Iff.rfl)), trivial⟩ rfl
   refine dw_guardF rfl rfl rfl rfl (decide_eq_false hg21) ?_
   refine dw_guardF rfl rfl rfl rfl (decide_eq_false hg21) ?_
   refine dw_guardF rfl rfl rfl rfl (decide_eq_false hg21) ?_
   refine dw_guardF rfl rfl rfl rfl (decide_eq_false hg21) ?_
   refine dw_guardF rfl rfl rfl rfl (decide_eq_false hg21) ?_
   refine dw_guardF rfl rfl rfl rfl (decide_eq_false hg21) ?_
   refine dw_guardF rfl rfl rfl rfl (decide_eq_false hg21) ?_
   refine dw_guardF rfl rfl rfl rfl (decide_eq_false hg21) ?_
   refine dw_o rfl (ok_pickF rfl (decide_eq_false hg21) rfl) ?_
   refine dw_nil ?_
   refine ent_nil ?_
   exact ent_rep ⟨rfl, rfl, rfl, rfl, slot_bool (dq_F rfl (fun h => hg21 h.1)), trivial⟩ rfl
  refine ent_k K8 ?_
  refine ent_condD rfl (fun h31 => ?_) (fun h31 => ?_)
  ·have hgood : f.R.Good x := ⟨by rw [hC]; omega, by have := h31.2; rw [Rg.ix_pl f.R x (by omega) (by omega)] at this; rw [hC, show (f.q - 1).toNat = (f.q - 2).toNat + 1 by omega]; exact this⟩
   refine esk rfl ?_
   refine ent_ret ?_
   exact retR1 (.inr rfl) results131 (resr_tmp (res_cv rfl (cvF_vecV (k := 0) flat_int rfl rfl rfl (by have hgx := Rg.gen_eq f.R (x := x) ⟨x1, by omega, hgood, hno⟩; have hg1 := hgood.1; rw [hC] at hg1; unfold Fld.exps; rw [hgx, show (f.q - 1).toNat = f.R.stopK x by omega]))))
  have hbad : ¬ f.R.Good x := by
     rintro ⟨g1, g2⟩
     rw [hC] at g1 g2
     refine h31 ⟨by omega, ?_⟩
     rw [Rg.ix_pl f.R x (by omega) (by omega)]
     rw [show (f.q - 1).toNat = (f.q - 2).toNat + 1 by omega] at g2; exact g2
  refine esp K6 ?_
  refine ent_region ?_
  refine emm rfl ?_
  refine ent_o rfl (ok_add rfl rfl (by omega) (by omega)) ?_
  refine emm rfl ?_
  refine ent_nil ?_
  refine ent_drop 0 ?_
  refine ent_again (s := (x)) (x + 1) ⟨(by omega), ‹_›, (fun y h1 h2 => by by_cases hy : y = x; (rw [hy]; exact hbad); exact hno y h1 (by omega))⟩ (by omega) (ent_rep ⟨rfl, rfl, rfl, trivial⟩ rfl)
 obtain ⟨y, y1, y2, y3⟩ := hG; exact absurd y3 (hno y y1 (by omega))

theorem shape_ok (f : Fld)  : Ctr Try.prog 129 [aFld f] (aBool (decide (Shape f))) := by
 refine ctr_of Try.call129 func129 rfl rfl ?_
 intro w O
 refine ent_lenC 0 2 rfl rfl (fun hlen0_2 => ?_)
 refine esr rfl fun _ K1 => ?_
 refine ent_boxS rfl rfl (AllOne.mem ⟨(one_int _), (one_int _), one_sl, trivial⟩) (fun b1_1 => ?_)
 refine emm rfl ?_
 refine enk K1 ?_
 refine ent_seq fun _ K2 => ?_
 refine ent_seq fun _ K3 => ?_
 refine ent_cut (⟨[(1, aEx (.pointer (some ⟨b1_1, 0, none⟩))), (16, aBool (decide (((ordS f.P f.M) = 0) ∨ ((!(isPr f.P)) = true))))], [oBox b1_1 24 [aInt f.P, aInt f.M, aSl 1 false aInt f.mod]]⟩) ?_ ?_
 ·refine ent_region ?_
  refine ent_o rfl (ok_fieldAddrEx runUnderlying24 rfl sizeOf3 (by decide) rfl) ?_
  refine ent_o rfl (ok_loadB (k := 0) isAgg3 rfl rfl rfl) ?_
  refine ent_o rfl (ok_fieldAddrEx runUnderlying24 rfl sizeOf3 (by decide) rfl) ?_
  refine ent_o rfl (ok_loadB (k := 0) isAgg3 rfl rfl rfl) ?_
  refine ent_o rfl (ok_call (order_ok f.P f.M) rfl) ?_
  refine ent_o rfl (ok_eql rfl rfl) ?_
  refine emm rfl ?_
  refine ent_guardXDf rfl rfl rfl rfl (fun hg11 => ?_) (fun hg11 => ?_)
  ·refine ent_o rfl (ok_fieldAddrEx runUnderlying24 rfl sizeOf3 (by decide) rfl) ?_
   refine ent_guardXT rfl rfl rfl rfl (decide_eq_false hg11) ?_
   refine ent_o rfl (ok_loadB (k := 0) isAgg3 rfl rfl rfl) ?_
   refine ent_guardXT rfl rfl rfl rfl (decide_eq_false hg11) ?_
   refine ent_o rfl (ok_call (isPrime_ok f.P (by have := ordS_pos hg11; omega)) rfl) ?_
   refine ent_guardXT rfl rfl rfl rfl (decide_eq_false hg11) ?_
   refine ent_o rfl (ok_not rfl) ?_
   refine ent_o rfl (ok_pickF rfl (decide_eq_false hg11) rfl) ?_
   refine ent_nil ?_
   exact ent_rep ⟨rfl, slot_bool (dq_B ((or_iff_right hg11).trans Iff.rfl)), trivial⟩ rfl
  refine ent_guardXF rfl rfl rfl rfl (decide_eq_true hg11) ?_
  refine ent_guardXF rfl rfl rfl rfl (decide_eq_true hg11) ?_
  refine ent_guardXF rfl rfl rfl rfl (decide_eq_true hg11) ?_
  refine ent_o rfl (ok_pickT rfl (decide_eq_true hg11) rfl) ?_
  refine ent_nil ?_
  exact ent_rep ⟨rfl, slot_bool (dq_T rfl (Or.inl hg11)), trivial⟩ rfl
 refine ent_k K3 ?_
 refine ent_condD rfl (fun h16 => ?_) (fun h16 => ?_)
 ·refine esk rfl ?_
  refine ent_ret ?_
  exact retR1 (.inr rfl) results129 (resr_tmp (res_cv rfl (cv_bool (by exact (decide_eq_false (fun h => h16.elim (fun h2 => h.1 h2) (fun h2 => by rw [h.2.1] at h2; exact absurd h2 (by decide)))).symm))))
 have hq : f.q ≠ 0 := fun h => h16 (.inl h)
 have hpr : isPr f.P = true := by by_cases h : isPr f.P = true; exact h; exact absurd (.inr (by rw [nt_to h]; rfl)) h16
 refine esp K2 ?_
 refine ent_seq fun _ K5 => ?_
 refine esr rfl fun _ K6 => ?_
 refine ent_o rfl (ok_fieldAddrEx runUnderlying24 rfl sizeOf3 (by decide) rfl) ?_
 refine ent_o rfl (ok_loadB (k := 0) isAgg3 rfl rfl rfl) ?_
 refine ent_o rfl (ok_eql rfl rfl) ?_
 refine enk K6 ?_
 refine ent_condD rfl (fun h19 => ?_) (fun h19 => ?_)
 ·refine esr rfl fun _ K7 => ?_
  refine ent_o rfl (ok_fieldAddrEx runUnderlying24 rfl sizeOf22 (by decide) rfl) ?_
  refine ent_o rfl (ok_loadB (k := 0) isAgg22 rfl rfl rfl) ?_
  refine ent_o rfl (ok_len rfl runUnderlying22 rfl) ?_
  refine ent_o rfl (ok_eql rfl rfl) ?_
  refine emm rfl ?_
  refine enk K7 ?_
  refine ent_ret ?_
  exact retR1 (.inr rfl) results129 (resr_tmp (res_cv rfl (cv_bool (by exact decide_eq_decide.2 ⟨fun h => ⟨hq, hpr, by unfold modOk; rw [if_pos h19]; exact h⟩, fun h => by have := h.2.2; unfold modOk at this; rw [if_pos h19] at this; exact this⟩))))
 refine esp K5 ?_
 refine ent_seq fun _ K8 => ?_
 refine esr rfl fun _ K9 => ?_
 refine ent_o rfl (ok_fieldAddrEx runUnderlying24 rfl sizeOf22 (by decide) rfl) ?_
 refine ent_o rfl (ok_loadB (k := 0) isAgg22 rfl rfl rfl) ?_
 refine ent_o rfl (ok_len rfl runUnderlying22 rfl) ?_
 refine ent_o rfl (ok_fieldAddrEx runUnderlying24 rfl sizeOf3 (by decide) rfl) ?_
 refine ent_o rfl (ok_loadB (k := 0) isAgg3 rfl rfl rfl) ?_
 refine ent_o rfl (ok_neq rfl rfl) ?_
 refine enk K9 ?_
 refine ent_condD rfl (fun h29 => ?_) (fun h29 => ?_)
 ·refine esk rfl ?_
  refine ent_ret ?_
  exact retR1 (.inr rfl) results129 (resr_tmp (res_cv rfl (cv_bool (by exact (decide_eq_false (fun h => by have := h.2.2; unfold modOk at this; rw [if_neg h19] at this; exact h29 this.1)).symm))))
 refine esp K8 ?_
 refine ent_seq fun _ K11 => ?_
 refine esr rfl fun _ K12 => ?_
 refine ent_o rfl (ok_fieldAddrEx runUnderlying24 rfl sizeOf22 (by decide) rfl) ?_
 refine ent_o rfl (ok_loadB (k := 0) isAgg22 rfl rfl rfl) ?_
 refine ent_o rfl (ok_len rfl runUnderlying22 rfl) ?_
 refine emm rfl ?_
 refine enk K12 ?_
 refine ent_block ?_
 refine ent_loop (fun (i : Int) => (⟨[(1, aEx (.pointer (some ⟨b1_1, 0, none⟩))), (31, aSl 1 false aInt f.mod), (32, aInt (↑f.mod.length : Int)), (33, aInt i)], [oBox b1_1 24 [aInt f.P, aInt f.M, aSl 1 false aInt f.mod]]⟩ : St)) (fun (i : Int) => (0 ≤ i) ∧ (i ≤ f.mod.length) ∧ (∀ c ∈ f.mod.take i.toNat, 0 ≤ c ∧ c < f.P)) (fun (i : Int) => (f.mod.length - i).toNat) 0 ⟨(by omega), (by omega), (by simp)⟩ (ent_rep ⟨rfl, rfl, rfl, slot_av (av_int (show 0 = (0 : Int) by rfl)), trivial⟩ rfl) ?_
 rintro i ⟨h0, h1, hm⟩
 show Ent _ ⟨_, [_]⟩ _
 refine esr rfl fun _ K13 => ?_
 refine ent_o rfl (ok_lss rfl rfl) ?_
 refine enk K13 ?_
 refine ent_seq fun _ K14 => ?_
 refine ent_condD rfl (fun h34 => ?_) (fun h34 => ?_)
 ·refine esp K14 ?_
  refine ent_seq fun _ K15 => ?_
  refine ent_block ?_
  refine esr rfl fun _ K16 => ?_
  refine ent_o rfl (ok_index 0 sl22 rfl rfl (by omega) (by omega)) ?_
  refine ent_o rfl (ok_load ti3 rfl) ?_
  refine emm rfl ?_
  refine enk K16 ?_
  refine ent_seq fun _ K17 => ?_
  refine ent_cut (⟨[(1, aEx (.pointer (some ⟨b1_1, 0, none⟩))), (31, aSl 1 false aInt f.mod), (32, aInt (↑f.mod.length : Int)), (33, aInt i), (44, aBool (decide (((ix 0 f.mod i) < 0) ∨ (f.P ≤ (ix 0 f.mod i)))))], [oBox b1_1 24 [aInt f.P, aInt f.M, aSl 1 false aInt f.mod]]⟩) ?_ ?_
  ·refine ent_region ?_
   refine emm rfl ?_
   refine ent_o rfl (ok_lss rfl rfl) ?_
   refine emm rfl ?_
   refine ent_guardXDf rfl rfl rfl rfl (fun hg39 => ?_) (fun hg39 => ?_)
   ·refine emm rfl ?_
    refine ent_guardXT rfl rfl rfl rfl (decide_eq_false hg39) ?_
    refine ent_o rfl (ok_fieldAddrEx runUnderlying24 rfl sizeOf3 (by decide) rfl) ?_
    refine ent_guardXT rfl rfl rfl rfl (decide_eq_false hg39) ?_
    refine ent_o rfl (ok_loadB (k := 0) isAgg3 rfl rfl rfl) ?_
    refine ent_guardXT rfl rfl rfl rfl (decide_eq_false hg39) ?_
    refine ent_o rfl (ok_geq rfl rfl) ?_
    refine ent_o rfl (ok_pickF rfl (decide_eq_false hg39) rfl) ?_
    refine ent_nil ?_
    exact ent_rep ⟨rfl, rfl, rfl, rfl, slot_bool (dq_Q ((or_iff_right hg39).trans Iff.rfl)), trivial⟩ rfl
   refine ent_guardXF rfl rfl rfl rfl (decide_eq_true hg39) ?_
   refine ent_guardXF rfl rfl rfl rfl (decide_eq_true hg39) ?_
   refine ent_guardXF rfl rfl rfl rfl (decide_eq_true hg39) ?_
   refine ent_o rfl (ok_pickT rfl (decide_eq_true hg39) rfl) ?_
   refine ent_nil ?_
   exact ent_rep ⟨rfl, rfl, rfl, rfl, slot_bool (dq_T rfl (Or.inl hg39)), trivial⟩ rfl
  refine ent_k K17 ?_
  refine ent_condD rfl (fun h44 => ?_) (fun h44 => ?_)
  ·refine esk rfl ?_
   refine ent_ret ?_
   exact retR1 (.inr rfl) results129 (resr_tmp (res_cv rfl (cv_bool (by exact (decide_eq_false (fun h => by have := h.2.2; unfold modOk at this; rw [if_neg h19] at this; have := this.2 _ (ix_mem 0 f.mod h0 h34); omega)).symm))))
  refine esp K15 ?_
  refine ent_region ?_
  refine ent_o rfl (ok_add rfl rfl (by omega) (by omega)) ?_
  refine emm rfl ?_
  refine ent_nil ?_
  refine ent_again (s := (i)) (i + 1) ⟨(by omega), ‹_›, (fun c hc => by rw [take_succ_ix 0 f.mod h0 h34] at hc; rcases List.mem_append.1 hc with hc | hc; exact hm c hc; rw [List.mem_singleton] at hc; omega)⟩ (by omega) (ent_rep ⟨rfl, rfl, rfl, rfl, trivial⟩ rfl)
 refine ent_exit ?_
 refine ent_k K11 ?_
 refine esk rfl ?_
 refine ent_ret ?_
 exact retR1 (.inr rfl) results129 (resr_tmp (res_cv rfl (cv_bool (by exact (decide_eq_true ⟨hq, hpr, by unfold modOk; rw [if_neg h19]; rw [List.take_of_length_le (by omega)] at hm; exact ⟨Classical.not_not.1 h29, hm⟩⟩).symm))))

theorem New_ok (f : Fld) (hF : FOk f) : CtrF Try.prog 94 [aFld f] (aTup [aGF f, aInt 0]) := by
 have hb := hF.1.bd
 have hE := hF.exp_good
 have hq : ordS f.P f.M = f.q := rfl
 have hml := hF.1.mod_le
 refine ctrF_of Try.call94 func94 rfl rfl ?_
 intro w O
 refine ent_lenC 0 2 rfl rfl (fun hlen0_2 => ?_)
 refine esr rfl fun _ K1 => ?_
 refine ent_boxS rfl rfl (AllOne.mem ⟨(one_int _), (one_int _), one_sl, trivial⟩) (fun b1_1 => ?_)
 refine emm rfl ?_
 refine enk K1 ?_
 refine ent_seq fun _ K2 => ?_
 refine esr rfl fun _ K3 => ?_
 refine ent_o rfl (ok_loadBS (k := 0) ti24 rfl rfl rfl) ?_
 refine ent_o rfl (ok_call (shape_ok f) rfl) ?_
 refine ent_o rfl (ok_notD rfl) ?_
 refine enk K3 ?_
 refine ent_condD rfl (fun h11 => ?_) (fun h11 => ?_)
 ·exact absurd hF.1 h11
 refine esp K2 ?_
 refine esr rfl fun _ K4 => ?_
 refine ent_o rfl (ok_fieldAddrEx runUnderlying24 rfl sizeOf3 (by decide) rfl) ?_
 refine ent_o rfl (ok_loadB (k := 0) isAgg3 rfl rfl rfl) ?_
 refine ent_o rfl (ok_fieldAddrEx runUnderlying24 rfl sizeOf3 (by decide) rfl) ?_
 refine ent_o rfl (ok_loadB (k := 0) isAgg3 rfl rfl rfl) ?_
 refine ent_o rfl (ok_call (order_ok f.P f.M) rfl) ?_
 refine emm rfl ?_
 refine enk K4 ?_
 refine esr rfl fun _ K5 => ?_
 refine ent_o rfl (ok_loadBS (k := 0) ti24 rfl rfl rfl) ?_
 refine emm rfl ?_
 refine ent_callV [] rfl (generator_ok f hF.1 hF.2) (ArgsA.ok ⟨arg_a rfl (cv_id (sub_lent _)), arg_a rfl (cv_int rfl), trivial⟩) (fun r19 c19 => ?_)
 refine ent_rsome 0 rfl (by omega) (fun b19_2 hb19_2 => ?_)
 subst hb19_2
 refine emm rfl ?_
 refine enk K5 ?_
 refine ent_seq fun _ K6 => ?_
 refine esr rfl fun _ K7 => ?_
 refine ent_o rfl (ok_eqlNil_vec underlying22 rfl) ?_
 refine enk K7 ?_
 refine ent_condF rfl ?_
 refine esp K6 ?_
 refine ent_seq fun _ K8 => ?_
 refine ent_draw 16 mixed (by kernel_rfl) (by kernel_rfl) (by kernel_rfl) ?_
 refine dw_o rfl (ok_fieldAddrEx runUnderlying24 rfl sizeOf3 (by decide) rfl) ?_
 refine dw_o rfl (ok_loadB (k := 1) isAgg3 rfl rfl rfl) ?_
 refine dw_o rfl (ok_fieldAddrEx runUnderlying24 rfl sizeOf3 (by decide) rfl) ?_
 refine dw_o rfl (ok_loadB (k := 1) isAgg3 rfl rfl rfl) ?_
 refine dw_o rfl (ok_build0 vt22) ?_
 refine dw_o rfl (ok_fieldAddrEx runUnderlying24 rfl sizeOf22 (by decide) rfl) ?_
 refine dw_o rfl (ok_loadB (k := 1) isAgg22 rfl rfl rfl) ?_
 refine dw_o rfl (ok_append0 vt22 rfl rfl (cv_id sub_refl) (by omega) (by omega)) ?_
 refine dw_o rfl (ok_build st24 (As := [aInt 0, aInt 0, aEx (.slice none 0 0)]) z24 (⟨0, 1, rfl, .inl ⟨rfl, _, rfl, (one_int _), rfl, ⟨1, 1, rfl, .inl ⟨rfl, _, rfl, (one_int _), rfl, ⟨2, 1, rfl, .inl ⟨rfl, _, rfl, one_sl, rfl, rfl⟩⟩⟩⟩⟩⟩)) ?_
 refine dw_o rfl (ok_move rfl) ?_
 refine dw_o rfl (ok_move rfl) ?_
 refine dw_o rfl (ok_move rfl) ?_
 refine dw_o rfl (ok_makeA aInt 0 vt22 rfl rfl (by omega) (by omega) (by omega) (fun _ _ => rfl) (AllV.mem ⟨rfl, trivial⟩)) ?_
 refine dw_o rfl (ok_build st143 (As := [aInt 0, aInt 0, aEx (.slice none 0 0), aInt 0, aEx (.slice none 0 0), aEx (.slice none 0 0)]) z143 (⟨0, 3, rfl, .inr ⟨_, rfl, rfl, rfl, ⟨3, 1, rfl, .inl ⟨rfl, _, rfl, (one_int _), rfl, ⟨4, 1, rfl, .inl ⟨rfl, _, rfl, (one_ex rfl), rfl, ⟨5, 1, rfl, .inl ⟨rfl, _, rfl, one_frvec, rfl, rfl⟩⟩⟩⟩⟩⟩⟩⟩)) ?_
 refine dw_o rfl (ok_boxF rfl (AllOne.mem ⟨(one_int _), (one_int _), one_sl, (one_int _), (one_ex rfl), one_frvec, trivial⟩)) ?_
 refine dw_o rfl (ok_assign rfl) ?_
 refine dw_nil ?_
 refine ent_nil ?_
 refine ent_drop 1 ?_
 refine ent_own 6 5 [(5, aEx (vec (some b19_2) ((f.exps).length) c19))] [aInt f.P, aInt f.M, aAny, aInt (ordS f.P f.M), aEx (vec (some b19_2) ((f.exps).length) c19), aAny] rfl rfl (by decide) flat_int ⟨.inr (plTo_pl pl_ex), .inr (plTo_pl pl_ex), .inr plTo_any, .inr (plTo_pl pl_ex), .inr (plTo_pl pl_ex), .inl rfl, trivial⟩ ⟨rfl, trivial⟩ ⟨pl_ex, trivial⟩ ⟨flatOwn_vec flat_int, trivial⟩ (fun b6_3 rb6_3 cb6_3 => ?_)
 refine ent_k K8 ?_
 refine ent_seq fun _ K9 => ?_
 refine esr rfl fun _ K10 => ?_
 refine ent_o rfl (ok_lenEx rfl runUnderlying22 rfl) ?_
 refine emm rfl ?_
 refine enk K10 ?_
 refine ent_block ?_
 refine ent_loop (fun (n : Int) => (⟨[(6, aEx (.pointer (some ⟨b6_3, 0, none⟩))), (37, aEx (vec (some b19_2) ((f.exps).length) c19)), (38, aInt (↑((f.exps).length) : Int)), (39, aInt n)], [oBox b6_3 143 [aInt f.P, aInt f.M, aAny, aInt (ordS f.P f.M), aEx (vec (some b19_2) ((f.exps).length) c19), aEx (vec rb6_3 ((List.replicate (ordS f.P f.M).toNat 0).length) cb6_3)], oVec rb6_3 cb6_3 3 1 false aInt (f.logsTo n), oVec (some b19_2) c19 3 1 false aInt f.exps]⟩ : St)) (fun (n : Int) => (0 ≤ n) ∧ (n ≤ f.exps.length)) (fun (n : Int) => (f.exps.length - n).toNat) 0 ⟨(by omega), (by omega)⟩ (ent_rep ⟨rfl, rfl, rfl, slot_av (av_int (show 0 = (0 : Int) by rfl)), trivial⟩ (own_cons (rfl) (own_cons (own_vec (show f.logsTo (0 : Int) = List.replicate (ordS f.P f.M).toNat 0 by exact logsTo_zero f)) (rfl)))) ?_
 rintro n ⟨h0, h1⟩
 show Ent _ ⟨_, [_, _, _]⟩ _
 have hll := length_logsTo f n
 have hrl : (List.replicate (ordS f.P f.M).toNat (0 : Int)).length = f.q.toNat := List.length_replicate
 refine esr rfl fun _ K11 => ?_
 refine ent_o rfl (ok_lss rfl rfl) ?_
 refine enk K11 ?_
 refine ent_seq fun _ K12 => ?_
 refine ent_condD rfl (fun h40 => ?_) (fun h40 => ?_)
 ·refine esp K12 ?_
  refine ent_seq fun _ K13 => ?_
  refine ent_block ?_
  refine esr rfl fun _ K14 => ?_
  refine ent_o rfl (ok_indexV sl22 rfl rfl (by omega) (by omega)) ?_
  refine ent_o rfl (ok_loadV (k := 2) 0 ti3 rfl rfl (by omega) (by omega)) ?_
  refine emm rfl ?_
  refine enk K14 ?_
  refine ent_region ?_
  have hx := hF.exp_ix h0 (show n < f.q - 1 by omega)
  refine emm rfl ?_
  refine ent_o rfl (ok_nilCheckEx rfl) ?_
  refine ent_o rfl (ok_fieldAddrEx runUnderlying143 rfl sizeOf22 (by decide) rfl) ?_
  refine ent_o rfl (ok_loadB (k := 0) isAgg22 rfl rfl rfl) ?_
  refine emm rfl ?_
  refine ent_rsome 1 rfl (by omega) (fun b50_4 hb50_4 => ?_)
  subst hb50_4
  refine ent_o rfl (ok_indexV sl22 rfl rfl (by omega) (by omega)) ?_
  refine ent_storeV (k := 1) (z := n) ti3 rfl rfl rfl (elem_one (one_int _)) (by omega) (by omega) ?_
  refine enk K13 ?_
  refine ent_region ?_
  refine ent_o rfl (ok_add rfl rfl (by omega) (by omega)) ?_
  refine emm rfl ?_
  refine ent_nil ?_
  refine ent_again (s := (n)) (n + 1) ⟨(by omega), ‹_›⟩ (by omega) (ent_rep ⟨rfl, rfl, rfl, rfl, trivial⟩ (own_cons (own_box (av_cons rfl (av_cons rfl (av_cons rfl (av_cons rfl (av_cons rfl (av_cons (av_vec rfl) (rfl)))))))) (own_cons (own_vec (show f.logsTo (n + 1) = List.set (f.logsTo n) (ix 0 f.exps n).toNat n by exact (hF.logsTo_succ h0 (show n < f.q - 1 by omega)).symm)) (rfl))))
 refine ent_exit ?_
 refine ent_k K9 ?_
 refine esk rfl ?_
 refine ent_ret ?_
 exact retR2 (.inr rfl) results94 (resr_tmp (res_cv rfl (cvF_box (k := 0) rfl rfl ⟨cv_int rfl, cv_int rfl, cv_any, cv_int rfl, cvF_vec (k := 2) flat_int rfl rfl rfl rfl, cvF_vec (k := 1) flat_int rfl rfl (by simp_all) (by rw [show n = f.q - 1 by omega]; rfl), trivial⟩ rfl))) (resr_tmp (res_cv rfl (cv_int rfl)))

end Go.Proofs.Ytfjhbdfgbpcchaa

