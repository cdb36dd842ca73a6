/-
  Walks of functions of the program and the reference.
-/
import Derived.Test.YtfjhbdfgbpcchaaV4
set_option linter.unnecessarySimpa false
open Go Go.Cw
namespace Go.Proofs.Ytfjhbdfgbpcchaa
open Try
set_option maxRecDepth 100000
set_option linter.unusedVariables false
set_option linter.unusedSimpArgs false
theorem rOrder_ok (f : Fld)  : Ctr Try.prog 62 [aFld f] (aInt f.q) := by
 refine ctr_of Try.call62 func62 rfl rfl ?_
 intro w O
 refine ent_lenC 0 2 rfl rfl (fun hlen0_2 => ?_)
 refine esr rfl fun _ K1 => ?_
 refine ent_boxS rfl rfl (AllOne.mem ⟨(one_int _), (one_int _), one_sl, trivial⟩) (fun b1_1 => ?_)
 refine emm rfl ?_
 refine enk K1 ?_
 refine ent_seq fun _ K2 => ?_
 refine ent_seq fun _ K3 => ?_
 refine ent_cut (⟨[(1, aEx (.pointer (some ⟨b1_1, 0, none⟩))), (17, aBool (decide (((f.P < 2) ∨ (f.M < 1)) ∨ (8 < f.M))))], [oBox b1_1 24 [aInt f.P, aInt f.M, aSl 1 false aInt f.mod]]⟩) ?_ ?_
 ·refine ent_region ?_
  refine ent_o rfl (ok_fieldAddrEx runUnderlying24 rfl sizeOf3 (by decide) rfl) ?_
  refine ent_o rfl (ok_loadB (k := 0) isAgg3 rfl rfl rfl) ?_
  refine ent_o rfl (ok_lss rfl rfl) ?_
  refine emm rfl ?_
  refine ent_guardXDf rfl rfl rfl rfl (fun hg8 => ?_) (fun hg8 => ?_)
  ·refine ent_o rfl (ok_fieldAddrEx runUnderlying24 rfl sizeOf3 (by decide) rfl) ?_
   refine ent_guardXT rfl rfl rfl rfl (decide_eq_false hg8) ?_
   refine ent_o rfl (ok_loadB (k := 0) isAgg3 rfl rfl rfl) ?_
   refine ent_guardXT rfl rfl rfl rfl (decide_eq_false hg8) ?_
   refine ent_o rfl (ok_lss rfl rfl) ?_
   refine ent_o rfl (ok_pickF rfl (decide_eq_false hg8) rfl) ?_
   refine emm rfl ?_
   refine ent_guardXDf rfl rfl rfl rfl (fun hg13 => ?_) (fun hg13 => ?_)
   ·refine ent_o rfl (ok_fieldAddrEx runUnderlying24 rfl sizeOf3 (by decide) rfl) ?_
    refine ent_guardXT rfl rfl rfl rfl (decide_eq_false hg13) ?_
    refine ent_o rfl (ok_loadB (k := 0) isAgg3 rfl rfl rfl) ?_
    refine ent_guardXT rfl rfl rfl rfl (decide_eq_false hg13) ?_
    refine ent_o rfl (ok_gtr rfl rfl) ?_
    refine ent_o rfl (ok_pickF rfl (decide_eq_false hg13) rfl) ?_
    refine ent_nil ?_
    exact ent_rep ⟨rfl, slot_bool (dq_Q ((or_iff_right (fun h => h.elim hg8 hg13)).trans Iff.rfl)), trivial⟩ rfl
   refine ent_guardXF rfl rfl rfl rfl (decide_eq_true hg13) ?_
   refine ent_guardXF rfl rfl rfl rfl (decide_eq_true hg13) ?_
   refine ent_o rfl (ok_pickT rfl (decide_eq_true hg13) rfl) ?_
   refine ent_nil ?_
   exact ent_rep ⟨rfl, slot_bool (dq_T rfl (Or.inl (Or.inr hg13))), trivial⟩ rfl
  refine ent_guardXF rfl rfl rfl rfl (decide_eq_true hg8) ?_
  refine ent_guardXF rfl rfl rfl rfl (decide_eq_true hg8) ?_
  refine ent_o rfl (ok_pickT rfl (decide_eq_true hg8) rfl) ?_
  refine emm rfl ?_
  refine ent_guardXF rfl rfl rfl rfl rfl ?_
  refine ent_guardXF rfl rfl rfl rfl rfl ?_
  refine ent_guardXF rfl rfl rfl rfl rfl ?_
  refine ent_o rfl (ok_pickT rfl rfl rfl) ?_
  refine ent_nil ?_
  exact ent_rep ⟨rfl, slot_bool (dq_T rfl (Or.inl (Or.inl hg8))), trivial⟩ rfl
 refine ent_k K3 ?_
 refine ent_condD rfl (fun h17 => ?_) (fun h17 => ?_)
 ·refine esk rfl ?_
  refine ent_ret ?_
  exact retR1 (.inr rfl) results62 (resr_tmp (res_cv rfl (cv_int (by exact (ordS_bad f.P f.M (by omega)).symm))))
 refine esp K2 ?_
 refine esk rfl ?_
 refine ent_seq fun _ K6 => ?_
 refine esk rfl ?_
 refine ent_block ?_
 refine ent_loop (fun (i : Int) => (⟨[(1, aEx (.pointer (some ⟨b1_1, 0, none⟩))), (3, aInt (f.P ^ i.toNat)), (4, aInt i)], [oBox b1_1 24 [aInt f.P, aInt f.M, aSl 1 false aInt f.mod]]⟩ : St)) (fun (i : Int) => (0 ≤ i) ∧ (i ≤ f.M) ∧ (1 ≤ f.P ^ i.toNat) ∧ (f.P ^ i.toNat ≤ 256)) (fun (i : Int) => (f.M - i).toNat) 0 ⟨(by omega), (by omega), (by simp), (by simp)⟩ (ent_rep ⟨rfl, slot_av (av_int (show 1 = f.P ^ (0 : Int).toNat by simp)), slot_av (av_int (show 0 = (0 : Int) by rfl)), trivial⟩ rfl) ?_
 rintro i ⟨h0, h1, h2, h3⟩
 show Ent _ ⟨_, [_]⟩ _
 refine ent_seq fun _ K8 => ?_
 refine esr rfl fun _ K9 => ?_
 refine ent_o rfl (ok_fieldAddrEx runUnderlying24 rfl sizeOf3 (by decide) rfl) ?_
 refine ent_o rfl (ok_loadB (k := 0) isAgg3 rfl rfl rfl) ?_
 refine ent_o rfl (ok_lss rfl rfl) ?_
 refine enk K9 ?_
 refine ent_condD rfl (fun h21 => ?_) (fun h21 => ?_)
 ·have hs := pow_succ_toNat f.P i h0
  have hq := pow_pos_of f.P (by omega) (i + 1).toNat
  have hqq : 256 / f.P < f.P ^ i.toNat ↔ 256 < f.P ^ i.toNat * f.P := Int.ediv_lt_iff_lt_mul (by omega)
  refine esp K8 ?_
  refine ent_seq fun _ K10 => ?_
  refine ent_block ?_
  refine ent_seq fun _ K11 => ?_
  refine esr rfl fun _ K12 => ?_
  refine ent_o rfl (ok_fieldAddrEx runUnderlying24 rfl sizeOf3 (by decide) rfl) ?_
  refine ent_o rfl (ok_loadB (k := 0) isAgg3 rfl rfl rfl) ?_
  refine ent_o rfl (ok_quo rfl rfl (by omega) (by omega) (by omega)) ?_
  refine ent_o rfl (ok_gtr rfl rfl) ?_
  refine enk K12 ?_
  refine ent_condD rfl (fun h28 => ?_) (fun h28 => ?_)
  ·refine esk rfl ?_
   refine ent_ret ?_
   exact retR1 (.inr rfl) results62 (resr_tmp (res_cv rfl (cv_int (by exact (ordS_big f.P f.M i (by omega) h0 h21 (by rw [hs]; exact hqq.1 h28)).symm))))
  refine esp K11 ?_
  refine ent_region ?_
  refine emm rfl ?_
  refine ent_o rfl (ok_fieldAddrEx runUnderlying24 rfl sizeOf3 (by decide) rfl) ?_
  refine ent_o rfl (ok_loadB (k := 0) isAgg3 rfl rfl rfl) ?_
  refine ent_o rfl (ok_mul rfl rfl (by omega) (by omega)) ?_
  refine emm rfl ?_
  refine enk K10 ?_
  refine ent_region ?_
  refine emm rfl ?_
  refine ent_o rfl (ok_add rfl rfl (by omega) (by omega)) ?_
  refine emm rfl ?_
  refine ent_nil ?_
  refine ent_again (s := (i)) (i + 1) ⟨(by omega), ‹_›, (by rw [hs]; omega), (by rw [hs]; omega)⟩ (by omega) (ent_rep ⟨rfl, slot_av (av_int (show (f.P ^ i.toNat) * f.P = f.P ^ (i + 1).toNat by rw [hs])), rfl, trivial⟩ rfl)
 refine ent_exit ?_
 refine ent_k K6 ?_
 refine esk rfl ?_
 refine ent_ret ?_
 exact retR1 (.inr rfl) results62 (resr_tmp (res_cv rfl (cv_int (by rw [show i = f.M by omega] at h3 ⊢; exact (ordS_ok f.P f.M (by omega) (by omega) (by omega) h3).symm))))

theorem prime_ok (n : Int) (hn : 2 ≤ n) (hn2 : n ≤ 256) : Ctr Try.prog 99 [aInt n] (aBool (isPr n)) := by
 refine ctr_of Try.call99 func99 rfl rfl ?_
 intro w O
 refine esk rfl ?_
 refine ent_seq fun _ K2 => ?_
 refine esk rfl ?_
 refine ent_block ?_
 refine ent_loop (fun (d : Int) => (⟨[(0, aInt n), (3, aInt d)], []⟩ : St)) (fun (d : Int) => (2 ≤ d) ∧ (d ≤ n) ∧ (∀ e : Int, 2 ≤ e → e < d → n % e ≠ 0)) (fun (d : Int) => (n - d).toNat) 2 ⟨(by omega), ‹_›, (fun e h1 h2 => by omega)⟩ (ent_rep ⟨rfl, slot_av (av_int (show 2 = (2 : Int) by rfl)), trivial⟩ rfl) ?_
 rintro d ⟨hd2, hdn, hd⟩
 show Ent _ ⟨_, []⟩ _
 refine ent_seq fun _ K4 => ?_
 refine esr rfl fun _ K5 => ?_
 refine ent_o rfl (ok_lss rfl rfl) ?_
 refine enk K5 ?_
 refine ent_condD rfl (fun h6 => ?_) (fun h6 => ?_)
 ·refine esp K4 ?_
  refine ent_seq fun _ K6 => ?_
  refine ent_block ?_
  refine esr rfl fun _ K7 => ?_
  refine ent_o rfl (ok_rem rfl rfl (by omega) (by omega)) ?_
  refine ent_o rfl (ok_eql rfl rfl) ?_
  refine enk K7 ?_
  refine ent_condD rfl (fun h12 => ?_) (fun h12 => ?_)
  ·refine esk rfl ?_
   refine ent_ret ?_
   exact retR1 (.inr rfl) results99 (resr_tmp (res_cv rfl (cv_bool (by exact (decide_eq_false (fun h => h.2 d hd2 h6 h12)).symm))))
  refine esp K6 ?_
  refine ent_region ?_
  refine emm rfl ?_
  refine ent_o rfl (ok_add rfl rfl (by omega) (by omega)) ?_
  refine emm rfl ?_
  refine ent_nil ?_
  refine ent_again (s := (d)) (d + 1) ⟨(by omega), ‹_›, (fun e h1 h2 => by by_cases he : e = d; (rw [he]; exact h12); exact hd e h1 (by omega))⟩ (by omega) (ent_rep ⟨rfl, rfl, trivial⟩ rfl)
 refine ent_exit ?_
 refine ent_k K2 ?_
 refine esk rfl ?_
 refine ent_ret ?_
 exact retR1 (.inr rfl) results99 (resr_tmp (res_cv rfl (cv_bool (by exact (decide_eq_true ⟨hn, fun e h1 h2 => hd e h1 (by omega)⟩).symm))))

theorem rdigits_ok (x p m : Int) (hx : 0 ≤ x) (hx2 : x ≤ 9223372036854775807) (hp : 2 ≤ p) (hm : 0 ≤ m) (hm2 : m ≤ 1000000) : CtrF Try.prog 133 [aInt x, aInt p, aInt m] (aVec 3 1 false aInt (digS p m.toNat x)) := by
 refine ctrF_of Try.call133 func133 rfl rfl ?_
 intro w O
 refine esk rfl ?_
 refine esr rfl fun _ K2 => ?_
 refine ent_make aInt 0 rfl vt22 rfl rfl (by omega) (by omega) (by omega) (fun _ _ => rfl) (AllV.mem ⟨rfl, trivial⟩) (fun b10_1 => ?_)
 refine emm rfl ?_
 refine enk K2 ?_
 refine ent_seq fun _ K3 => ?_
 refine esk rfl ?_
 refine ent_block ?_
 refine ent_loop (fun (ss : Int × Int × List Int) => match ss with | (i, y, ys) => (⟨[(0, aInt y), (1, aInt p), (2, aInt m), (7, aEx (vec (some b10_1) ((m).toNat) ((m).toNat))), (8, aInt i)], [oVec (some b10_1) ((m).toNat) 3 1 false aInt (ys ++ List.replicate (m - i).toNat 0)]⟩ : St)) (fun (ss : Int × Int × List Int) => match ss with | (i, y, ys) => (0 ≤ i) ∧ (i ≤ m) ∧ (0 ≤ y) ∧ (y ≤ 9223372036854775807) ∧ (ys.length = i.toNat) ∧ (digS p m.toNat x = ys ++ digS p (m - i).toNat y)) (fun (ss : Int × Int × List Int) => match ss with | (i, y, ys) => (m - i).toNat) (0, x, []) ⟨(by omega), ‹_›, ‹_›, ‹_›, (by simp), (by simp)⟩ (ent_rep ⟨rfl, rfl, rfl, rfl, slot_av (av_int (show 0 = (0 : Int) by rfl)), trivial⟩ (own_cons (own_vec (show [] ++ List.replicate (m - (0 : Int)).toNat 0 = List.replicate ((m).toNat) 0 by simp)) (rfl))) ?_
 rintro ⟨i, y, ys⟩ ⟨h0, h1, hy, hy2, hl, hd⟩
 show Ent _ ⟨_, [_]⟩ _
 have hdv : 0 ≤ y / p ∧ y / p ≤ y := ⟨Int.ediv_nonneg hy (by omega), Int.ediv_le_self _ hy⟩
 have hll : (ys ++ List.replicate (m - i).toNat (0 : Int)).length = m.toNat := by simp [hl]; omega
 refine ent_seq fun _ K5 => ?_
 refine esr rfl fun _ K6 => ?_
 refine ent_o rfl (ok_lss rfl rfl) ?_
 refine enk K6 ?_
 refine ent_condD rfl (fun h13 => ?_) (fun h13 => ?_)
 ·refine esp K5 ?_
  refine ent_seq fun _ K7 => ?_
  refine ent_block ?_
  refine esr rfl fun _ K8 => ?_
  refine ent_o rfl (ok_rem rfl rfl (by omega) (by omega)) ?_
  refine ent_o rfl (ok_indexV sl22 rfl rfl (by omega) (by omega)) ?_
  refine ent_storeV (k := 0) (z := y % p) ti3 rfl rfl rfl (elem_one (one_int _)) (by omega) (by omega) ?_
  refine enk K8 ?_
  refine ent_region ?_
  refine emm rfl ?_
  refine ent_o rfl (ok_quo rfl rfl (by omega) (by omega) (by omega)) ?_
  refine emm rfl ?_
  refine enk K7 ?_
  refine ent_region ?_
  refine emm rfl ?_
  refine ent_o rfl (ok_add rfl rfl (by omega) (by omega)) ?_
  refine emm rfl ?_
  refine ent_nil ?_
  refine ent_again (s := (i, y, ys)) (i + 1, y / p, ys ++ [y % p]) ⟨(by omega), ‹_›, (by omega), (by omega), (by rw [List.length_append, hl]; simp; omega), (by rw [hd, digS_step p y (by omega), List.append_assoc]; rfl)⟩ (by dsimp only; omega) (ent_rep ⟨rfl, rfl, rfl, rfl, rfl, trivial⟩ (own_cons (own_vec (show (ys ++ [y % p]) ++ List.replicate (m - (i + 1)).toNat 0 = List.set (ys ++ List.replicate (m - i).toNat 0) (i).toNat (y % p) by exact (append_set_rep 0 _ hl h0 (by omega)).symm)) (rfl)))
 refine ent_exit ?_
 refine ent_k K3 ?_
 refine esk rfl ?_
 refine ent_ret ?_
 exact retR1 (.inr rfl) results133 (resr_tmp (res_cv rfl (cvF_vecV (k := 0) flat_int rfl rfl (by simp_all) (by rw [hd, show (m - i).toNat = 0 by omega]; simp [digS]))))

theorem divides_ok (f : Fld) (low : List Int) (hS : Shape f) (h1M : 1 < f.M) (hd : 1 ≤ low.length) (hdm : (low.length : Int) ≤ f.M) (hlow : ∀ c ∈ low, 0 ≤ c ∧ c < f.P) : Ctr Try.prog 132 [aSl 1 false aInt low, aSl 1 false aInt f.mod, aInt f.P] (aBool (decide (DivB f low))) := by
 have hb := hS.bd
 have hP := hS.pI
 have hM := hS.mI
 have hml := hS.mod_len h1M
 have hSm : ((f.R.sub low.length hd (dv low)).m : Int) = low.length := rfl
 have hl0 : ((([] : List Int) ++ f.mod ++ [1]).length : Int) = f.M + 1 := by simp; omega
 refine ctr_of Try.call132 func132 rfl rfl ?_
 intro w O
 refine ent_len 0 rfl (fun hlen0 => ?_)
 refine ent_len 1 rfl (fun hlen1 => ?_)
 refine esk rfl ?_
 refine esr rfl fun _ K2 => ?_
 refine ent_o rfl (ok_len rfl runUnderlying22 rfl) ?_
 refine emm rfl ?_
 refine enk K2 ?_
 refine esr rfl fun _ K3 => ?_
 refine ent_buildN aInt [] rfl vt22 (by decide) (rfl) rfl (fun b15_1 => ?_)
 refine emm rfl ?_
 refine ent_appendS (k := 0) rfl vt22 rfl rfl rfl rfl (cv_id sub_refl) (by simp only [List.length_append, List.length_cons, List.length_nil]; omega) (by simp only [List.length_append, List.length_cons, List.length_nil]; omega) (fun r17_1 cr17_1 => ?_)
 refine emm rfl ?_
 refine enk K3 ?_
 refine esr rfl fun _ K4 => ?_
 refine ent_appendL (k := 0) (enc := aInt) (y := 1) rfl rfl vt22 rfl rfl rfl rfl ((elem_one (one_int _))) (by simp only [List.length_append, List.length_cons, List.length_nil]; omega) (by simp only [List.length_append, List.length_cons, List.length_nil]; omega) (by decide) (fun b20_3 c20_3 => ?_)
 refine emm rfl ?_
 refine enk K4 ?_
 refine ent_seq fun _ K5 => ?_
 refine esr rfl fun _ K6 => ?_
 refine ent_o rfl (ok_lenEx rfl runUnderlying22 rfl) ?_
 refine ent_o rfl (ok_sub rfl rfl (by omega) (by omega)) ?_
 refine emm rfl ?_
 refine enk K6 ?_
 refine ent_block ?_
 refine ent_loop (fun (ss : Int × List Int) => match ss with | (i, r) => (⟨[(0, aSl 1 false aInt low), (2, aInt f.P), (7, aInt (↑low.length : Int)), (8, aEx (vec (some b20_3) ((([] ++ f.mod) ++ [1]).length) c20_3)), (9, aInt i)], [oVec (some b20_3) c20_3 3 1 false aInt r]⟩ : St)) (fun (ss : Int × List Int) => match ss with | (i, r) => ((low.length : Int) - 1 ≤ i) ∧ (i ≤ f.M) ∧ ((r.length : Int) = f.M + 1) ∧ (∀ y ∈ r, 0 ≤ y ∧ y < (f.p : Int)) ∧ (∀ k : Int, i < k → k < r.length → ix 0 r k = 0) ∧ ((f.R.sub low.length hd (dv low)).act (i + 1).toNat (dv r) (f.R.sub low.length hd (dv low)).e0 = (f.R.sub low.length hd (dv low)).act (f.R.m + 1) f.R.fp (f.R.sub low.length hd (dv low)).e0)) (fun (ss : Int × List Int) => match ss with | (i, r) => (i + 1).toNat) (f.M, ([] ++ f.mod) ++ [1]) ⟨(by omega), (by omega), (by simp; omega), (by rw [hP]; simpa using mod1_mem hS h1M), (fun k k0 k1 => by simp at k1; omega), (by rw [List.nil_append, dv_fp hS h1M, show (f.M + 1).toNat = f.R.m + 1 by omega])⟩ (ent_rep ⟨rfl, rfl, rfl, rfl, slot_av (av_int (show (↑((([] ++ f.mod) ++ [1]).length) : Int) - 1 = f.M by simp; omega)), trivial⟩ rfl) ?_
 rintro ⟨i, r⟩ ⟨h0, h1, hrl, hr, hz, hX⟩
 show Ent _ ⟨_, [_]⟩ _
 refine ent_seq fun _ K7 => ?_
 refine esr rfl fun _ K8 => ?_
 refine ent_o rfl (ok_geq rfl rfl) ?_
 refine enk K8 ?_
 refine ent_condD rfl (fun h26 => ?_) (fun h26 => ?_)
 ·have hci := hr _ (ix_mem 0 r (i := i) (by omega) (by omega))
  refine esp K7 ?_
  refine ent_seq fun _ K9 => ?_
  refine ent_block ?_
  refine esr rfl fun _ K10 => ?_
  refine ent_o rfl (ok_indexV sl22 rfl rfl (by omega) (by omega)) ?_
  refine ent_o rfl (ok_loadV (k := 0) 0 ti3 rfl rfl (by omega) (by omega)) ?_
  refine emm rfl ?_
  refine enk K10 ?_
  refine ent_seq fun _ K11 => ?_
  refine esk rfl ?_
  refine ent_block ?_
  refine ent_loop (fun (ss : Int × List Int) => match ss with | (j, t) => (⟨[(0, aSl 1 false aInt low), (2, aInt f.P), (7, aInt (↑low.length : Int)), (8, aEx (vec (some b20_3) ((([] ++ f.mod) ++ [1]).length) c20_3)), (9, aInt i), (10, aInt (ix 0 r i)), (11, aInt j)], [oVec (some b20_3) c20_3 3 1 false aInt t]⟩ : St)) (fun (ss : Int × List Int) => match ss with | (j, t) => (0 ≤ j) ∧ (j ≤ low.length) ∧ ((t.length : Int) = f.M + 1) ∧ (∀ y ∈ t, 0 ≤ y ∧ y < (f.p : Int)) ∧ (∀ k : Int, i < k → k < t.length → ix 0 t k = 0) ∧ (dv (p := f.p) t i.toNat = dv r i.toNat) ∧ ((f.R.sub low.length hd (dv low)).vadd ((f.R.sub low.length hd (dv low)).act i.toNat (dv t) (f.R.sub low.length hd (dv low)).e0) ((f.R.sub low.length hd (dv low)).smul (dv t i.toNat) ((f.R.sub low.length hd (dv low)).vadd ((f.R.sub low.length hd (dv low)).pw i.toNat (f.R.sub low.length hd (dv low)).e0) ((f.R.sub low.length hd (dv low)).pw (i.toNat - (f.R.sub low.length hd (dv low)).m) ((f.R.sub low.length hd (dv low)).act j.toNat (f.R.sub low.length hd (dv low)).md (f.R.sub low.length hd (dv low)).e0)))) = (f.R.sub low.length hd (dv low)).act (f.R.m + 1) f.R.fp (f.R.sub low.length hd (dv low)).e0)) (fun (ss : Int × List Int) => match ss with | (j, t) => (low.length - j).toNat) (0, r) ⟨(by omega), (by omega), ‹_›, hr, hz, rfl, (Rg.red_start (f.R.sub low.length hd (dv low)) (dv r) i.toNat _ (by rw [show i.toNat + 1 = (i + 1).toNat by omega]; exact hX))⟩ (ent_rep ⟨rfl, rfl, rfl, rfl, rfl, rfl, slot_av (av_int (show 0 = (0 : Int) by rfl)), trivial⟩ rfl) ?_
  rintro ⟨j, t⟩ ⟨j0, j1, tl, tr, tz, tc, tX⟩
  show Ent _ ⟨_, [_]⟩ _
  refine ent_seq fun _ K13 => ?_
  refine esr rfl fun _ K14 => ?_
  refine ent_o rfl (ok_lss rfl rfl) ?_
  refine enk K14 ?_
  refine ent_condD rfl (fun h35 => ?_) (fun h35 => ?_)
  ·have hlj := hlow _ (ix_mem 0 low (i := j) j0 (by omega))
   have hrj := tr _ (ix_mem 0 t (i := i - low.length + j) (by omega) (by omega))
   have hmm := mul_small (show 0 ≤ f.P - ix 0 r i by omega) (by omega) hlj.1 (by omega)
   have hst := red_list (d := (low.length : Int)) (i := i) (c := ix 0 r i) (l := ix 0 low j) (j := j) (f.R.sub low.length hd (dv low)) hSm rfl tr (by omega) (by omega) j0 (by omega) (by rw [tc]; rfl) hci.1 (by omega) hlj.1 _ tX
   rw [hP] at hst
   refine esp K13 ?_
   refine ent_seq fun _ K15 => ?_
   refine ent_block ?_
   refine ent_draw 26 mixed (by kernel_rfl) (drawQ_F (by kernel_rfl)) (by kernel_rfl) ?_
   refine dw_o rfl (ok_move rfl) ?_
   refine dw_o rfl (ok_move rfl) ?_
   refine dw_o rfl (ok_move rfl) ?_
   refine dw_o rfl (ok_sub rfl rfl (by omega) (by omega)) ?_
   refine dw_o rfl (ok_move rfl) ?_
   refine dw_o rfl (ok_add rfl rfl (by omega) (by omega)) ?_
   refine dw_o rfl (ok_move rfl) ?_
   refine dw_o rfl (ok_move rfl) ?_
   refine dw_o rfl (ok_move rfl) ?_
   refine dw_o rfl (ok_sub rfl rfl (by omega) (by omega)) ?_
   refine dw_o rfl (ok_move rfl) ?_
   refine dw_o rfl (ok_add rfl rfl (by omega) (by omega)) ?_
   refine dw_o rfl (ok_indexV sl22 rfl rfl (by omega) (by omega)) ?_
   refine dw_o rfl (ok_loadV (k := 0) 0 ti3 rfl rfl (by omega) (by omega)) ?_
   refine dw_o rfl (ok_move rfl) ?_
   refine dw_o rfl (ok_move rfl) ?_
   refine dw_o rfl (ok_sub rfl rfl (by omega) (by omega)) ?_
   refine dw_o rfl (ok_move rfl) ?_
   refine dw_o rfl (ok_move rfl) ?_
   refine dw_o rfl (ok_index 0 sl22 rfl rfl (by omega) (by omega)) ?_
   refine dw_o rfl (ok_load ti3 rfl) ?_
   refine dw_o rfl (ok_mul rfl rfl (by omega) (by omega)) ?_
   refine dw_o rfl (ok_add rfl rfl (by omega) (by omega)) ?_
   refine dw_o rfl (ok_move rfl) ?_
   refine dw_o rfl (ok_rem rfl rfl (by omega) (by omega)) ?_
   refine dw_o rfl (ok_indexV sl22 rfl rfl (by omega) (by omega)) ?_
   refine dw_nil ?_
   refine ent_storeV (k := 0) (z := ((ix 0 t ((i - (↑low.length : Int)) + j)) + ((f.P - (ix 0 r i)) * (ix 0 low j))) % f.P) ti3 rfl rfl rfl (elem_one (one_int _)) (by omega) (by omega) ?_
   refine enk K15 ?_
   refine ent_region ?_
   refine emm rfl ?_
   refine ent_o rfl (ok_add rfl rfl (by omega) (by omega)) ?_
   refine emm rfl ?_
   refine ent_nil ?_
   refine ent_again (s := (j, t)) (j + 1, List.set t ((i - (↑low.length : Int)) + j).toNat (((ix 0 t ((i - (↑low.length : Int)) + j)) + ((f.P - (ix 0 r i)) * (ix 0 low j))) % f.P)) ⟨(by omega), ‹_›, (by rw [List.length_set]; exact tl), (by rw [hP]; exact hst.1), (fun k k0 k1 => by rw [List.length_set] at k1; simp only [ix, List.getD]; rw [List.getElem?_set_ne (by omega)]; exact tz k k0 k1), (hst.2.1.trans tc), hst.2.2⟩ (by dsimp only; omega) (ent_rep ⟨rfl, rfl, rfl, rfl, rfl, rfl, rfl, trivial⟩ rfl)
  refine ent_exit ?_
  refine ent_k K11 ?_
  refine ent_region ?_
  refine emm rfl ?_
  refine ent_o rfl (ok_indexV sl22 rfl rfl (by omega) (by omega)) ?_
  refine ent_storeV (k := 0) (z := 0) ti3 rfl rfl rfl (elem_one (one_int _)) (by omega) (by omega) ?_
  refine enk K9 ?_
  refine ent_region ?_
  refine emm rfl ?_
  refine ent_o rfl (ok_sub rfl rfl (by omega) (by omega)) ?_
  refine emm rfl ?_
  refine ent_nil ?_
  refine ent_again (s := (i, r)) (i - 1, List.set t i.toNat 0) ⟨(by omega), (by omega), (by rw [List.length_set]; omega), (mem_set_range tr (by omega)), (fun k k0 k1 => by rw [List.length_set] at k1; by_cases hk : k = i; (rw [hk]; simp [ix, List.getD, show i.toNat < t.length by omega]); (simp only [ix, List.getD]; rw [List.getElem?_set_ne (by omega)]; exact tz k (by omega) k1)), (by rw [show (i - 1 + 1).toNat = i.toNat by omega, dv_set t (by omega) (by omega), Rg.act_congr (f.R.sub low.length hd (dv low)) i.toNat (c := dv t) (fun k hk => by unfold Rg.upd; rw [if_neg (by omega)])]; refine Rg.red_end (f.R.sub low.length hd (dv low)) (dv t) i.toNat _ (by show low.length ≤ i.toNat; omega) ?_; rw [show j = (f.R.sub low.length hd (dv low)).m by omega, Int.toNat_natCast] at tX; exact tX)⟩ (by dsimp only; omega) (ent_rep ⟨rfl, rfl, rfl, rfl, rfl, trivial⟩ (own_cons (own_vec (show (List.set t i.toNat 0) = List.set t (i).toNat 0 by rfl)) (rfl)))
 refine ent_exit ?_
 refine ent_k K5 ?_
 refine ent_seq fun _ K16 => ?_
 refine esk rfl ?_
 refine ent_block ?_
 have hend := divB_end hd hr (fun k k0 k1 => hz k (by omega) k1) (by omega) (by rw [show (i + 1).toNat = low.length by omega] at hX; exact hX)
 refine ent_loop (fun (k : Int) => (⟨[(8, aEx (vec (some b20_3) ((([] ++ f.mod) ++ [1]).length) c20_3)), (12, aInt k)], [oVec (some b20_3) c20_3 3 1 false aInt r]⟩ : St)) (fun (k : Int) => (0 ≤ k) ∧ (k ≤ r.length) ∧ (∀ u : Int, 0 ≤ u → u < k → ix 0 r u = 0)) (fun (k : Int) => (r.length - k).toNat) 0 ⟨(by omega), (by omega), (fun u u0 u1 => by omega)⟩ (ent_rep ⟨rfl, slot_av (av_int (show 0 = (0 : Int) by rfl)), trivial⟩ rfl) ?_
 rintro k ⟨k0, k1, kz⟩
 show Ent _ ⟨_, [_]⟩ _
 refine ent_seq fun _ K18 => ?_
 refine esr rfl fun _ K19 => ?_
 refine ent_o rfl (ok_lenEx rfl runUnderlying22 rfl) ?_
 refine ent_o rfl (ok_lss rfl rfl) ?_
 refine enk K19 ?_
 refine ent_condD rfl (fun h70 => ?_) (fun h70 => ?_)
 ·refine esp K18 ?_
  refine ent_seq fun _ K20 => ?_
  refine ent_block ?_
  refine esr rfl fun _ K21 => ?_
  refine ent_o rfl (ok_indexV sl22 rfl rfl (by omega) (by omega)) ?_
  refine ent_o rfl (ok_loadV (k := 0) 0 ti3 rfl rfl (by omega) (by omega)) ?_
  refine ent_o rfl (ok_neq rfl rfl) ?_
  refine enk K21 ?_
  refine ent_condD rfl (fun h77 => ?_) (fun h77 => ?_)
  ·refine esk rfl ?_
   refine ent_ret ?_
   exact retR1 (.inr rfl) results132 (resr_tmp (res_cv rfl (cv_bool (by exact (decide_eq_false (fun h => h77 (hend.1 h k k0 (by omega)))).symm))))
  refine esp K20 ?_
  refine ent_region ?_
  refine emm rfl ?_
  refine ent_o rfl (ok_add rfl rfl (by omega) (by omega)) ?_
  refine emm rfl ?_
  refine ent_nil ?_
  refine ent_again (s := (k)) (k + 1) ⟨(by omega), (by omega), (fun u u0 u1 => by by_cases hu : u = k; (rw [hu]; exact Classical.not_not.1 h77); exact kz u u0 (by omega))⟩ (by omega) (ent_rep ⟨rfl, rfl, trivial⟩ rfl)
 refine ent_exit ?_
 refine ent_k K16 ?_
 refine esk rfl ?_
 refine ent_ret ?_
 exact retR1 (.inr rfl) results132 (resr_tmp (res_cv rfl (cv_bool (by exact (decide_eq_true (hend.2 (fun u u0 u1 => kz u u0 (by omega)))).symm))))

theorem irreducible_ok (f : Fld) (hS : Shape f) (h1M : 1 < f.M) : Ctr Try.prog 100 [aSl 1 false aInt f.mod, aInt f.P] (aBool (decide (IrrB f))) := by
 have hb := hS.bd
 have hml := hS.mod_len h1M
 refine ctr_of Try.call100 func100 rfl rfl ?_
 intro w O
 refine ent_len 0 rfl (fun hlen0 => ?_)
 refine esk rfl ?_
 refine esk rfl ?_
 refine ent_seq fun _ K3 => ?_
 refine esk rfl ?_
 refine ent_block ?_
 refine ent_loop (fun (d : Int) => (⟨[(0, aSl 1 false aInt f.mod), (1, aInt f.P), (5, aInt (f.P ^ (d - 1).toNat)), (6, aInt d)], []⟩ : St)) (fun (d : Int) => (1 ≤ d) ∧ (2 * d ≤ f.M + 2) ∧ (∀ (e : Nat) (v : Int), 1 ≤ e → (e : Int) < d → 0 ≤ v → v < f.P ^ e → ¬ DivB f (digS f.P e v))) (fun (d : Int) => (f.M - d).toNat + 2) 1 ⟨(by omega), (by omega), (fun e v e1 e2 => by omega)⟩ (ent_rep ⟨rfl, rfl, slot_av (av_int (show 1 = f.P ^ ((1 : Int) - 1).toNat by simp)), slot_av (av_int (show 1 = (1 : Int) by rfl)), trivial⟩ rfl) ?_
 rintro d ⟨d1, d2, hi⟩
 show Ent _ ⟨_, []⟩ _
 refine ent_seq fun _ K5 => ?_
 refine esr rfl fun _ K6 => ?_
 refine ent_o rfl (ok_mul rfl rfl (by omega) (by omega)) ?_
 refine emm rfl ?_
 refine ent_o rfl (ok_len rfl runUnderlying22 rfl) ?_
 refine ent_o rfl (ok_leq rfl rfl) ?_
 refine enk K6 ?_
 refine ent_condD rfl (fun h12 => ?_) (fun h12 => ?_)
 ·have hs : f.P ^ (d - 1).toNat * f.P = f.P ^ d.toNat := by rw [← pow_succ_toNat f.P (d - 1) (by omega), show d - 1 + 1 = d by omega]
  have hpm := pow_mono_of f.P hb.1 (show d.toNat ≤ f.M.toNat by omega)
  have hp0 := pow_pos_of f.P hb.1 d.toNat
  have hp1 := pow_pos_of f.P hb.1 (d - 1).toNat
  have hld := length_digS f.P d.toNat
  refine esp K5 ?_
  refine ent_seq fun _ K7 => ?_
  refine ent_block ?_
  refine esr rfl fun _ K8 => ?_
  refine ent_o rfl (ok_mul rfl rfl (by omega) (by omega)) ?_
  refine emm rfl ?_
  refine enk K8 ?_
  refine esk rfl ?_
  refine ent_block ?_
  refine ent_loop (fun (v : Int) => (⟨[(0, aSl 1 false aInt f.mod), (1, aInt f.P), (5, aInt ((f.P ^ (d - 1).toNat) * f.P)), (6, aInt d), (7, aInt v)], []⟩ : St)) (fun (v : Int) => (0 ≤ v) ∧ (v ≤ f.P ^ (d - 1).toNat * f.P) ∧ (∀ u : Int, 0 ≤ u → u < v → ¬ DivB f (digS f.P d.toNat u))) (fun (v : Int) => (f.P ^ (d - 1).toNat * f.P - v).toNat) 0 ⟨(by omega), (by omega), (fun u u0 u1 => by omega)⟩ (ent_rep ⟨rfl, rfl, rfl, rfl, slot_av (av_int (show 0 = (0 : Int) by rfl)), trivial⟩ rfl) ?_
  rintro v ⟨v0, v1, vi⟩
  show Ent _ ⟨_, []⟩ _
  refine ent_seq fun _ K10 => ?_
  refine esr rfl fun _ K11 => ?_
  refine ent_o rfl (ok_lss rfl rfl) ?_
  refine enk K11 ?_
  refine ent_condD rfl (fun h20 => ?_) (fun h20 => ?_)
  ·refine esp K10 ?_
   refine ent_seq fun _ K12 => ?_
   refine ent_block ?_
   refine esr rfl fun _ K13 => ?_
   refine ent_o rfl (ok_call (CtrF.ctr (CtrF.sl (rdigits_ok v f.P d ‹_› (by omega) (by omega) (by omega) (by omega)))) rfl) ?_
   refine emm rfl ?_
   refine ent_o rfl (ok_call (divides_ok f (digS f.P d.toNat v) ‹_› ‹_› (by rw [length_digS]; omega) (by rw [length_digS]; omega) (digS_mem f.P hb.1 _ _)) rfl) ?_
   refine enk K13 ?_
   refine ent_condD rfl (fun h29 => ?_) (fun h29 => ?_)
   ·refine esk rfl ?_
    refine ent_ret ?_
    exact retR1 (.inr rfl) results100 (resr_tmp (res_cv rfl (cv_bool (by exact (decide_eq_false (fun h => h d.toNat v (by omega) (by omega) v0 (by omega) h29)).symm))))
   refine esp K12 ?_
   refine ent_region ?_
   refine emm rfl ?_
   refine ent_o rfl (ok_add rfl rfl (by omega) (by omega)) ?_
   refine emm rfl ?_
   refine ent_nil ?_
   refine ent_again (s := (v)) (v + 1) ⟨(by omega), ‹_›, (fun u u0 u1 => by by_cases hu : u = v; (rw [hu]; exact h29); exact vi u u0 (by omega))⟩ (by omega) (ent_rep ⟨rfl, rfl, rfl, rfl, rfl, trivial⟩ rfl)
  refine ent_exit ?_
  refine ent_k K7 ?_
  refine ent_region ?_
  refine emm rfl ?_
  refine ent_o rfl (ok_add rfl rfl (by omega) (by omega)) ?_
  refine emm rfl ?_
  refine ent_nil ?_
  refine ent_again (s := (d)) (d + 1) ⟨(by omega), (by omega), (fun e v e1 e2 v0 v1 => by by_cases he : (e : Int) = d; (rw [show e = d.toNat by omega] at v1 ⊢; exact vi v v0 (by omega)); exact hi e v e1 (by omega) v0 v1)⟩ (by omega) (ent_rep ⟨rfl, rfl, slot_av (av_int (show (f.P ^ (d - 1).toNat) * f.P = f.P ^ ((d + 1) - 1).toNat by rw [show (d + 1 - 1).toNat = d.toNat by omega]; exact hs)), rfl, trivial⟩ rfl)
 refine ent_exit ?_
 refine ent_k K3 ?_
 refine esk rfl ?_
 refine ent_ret ?_
 exact retR1 (.inr rfl) results100 (resr_tmp (res_cv rfl (cv_bool (by exact (decide_eq_true (show IrrB f from fun e v e1 e2 v0 v1 => hi e v e1 (by omega) v0 v1)).symm))))

theorem rCheck_ok (f : Fld)  : Ctr Try.prog 59 [aFld f] (aInt (fErr f)) := by
 refine ctr_of Try.call59 func59 rfl rfl ?_
 intro w O
 refine ent_lenC 0 2 rfl rfl (fun hlen0_2 => ?_)
 refine esr rfl fun _ K1 => ?_
 refine ent_boxS rfl rfl (AllOne.mem ⟨(one_int _), (one_int _), one_sl, trivial⟩) (fun b1_1 => ?_)
 refine emm rfl ?_
 refine enk K1 ?_
 refine ent_seq fun _ K2 => ?_
 refine ent_seq fun _ K3 => ?_
 refine ent_cut (⟨[(1, aEx (.pointer (some ⟨b1_1, 0, none⟩))), (12, aBool (decide ((f.q = 0) ∨ ((!(isPr f.P)) = true))))], [oBox b1_1 24 [aInt f.P, aInt f.M, aSl 1 false aInt f.mod]]⟩) ?_ ?_
 ·refine ent_region ?_
  refine ent_o rfl (ok_loadBS (k := 0) ti24 rfl rfl rfl) ?_
  refine ent_o rfl (ok_call (rOrder_ok f) rfl) ?_
  refine ent_o rfl (ok_eql rfl rfl) ?_
  refine emm rfl ?_
  refine ent_guardXDf rfl rfl rfl rfl (fun hg7 => ?_) (fun hg7 => ?_)
  ·refine ent_o rfl (ok_fieldAddrEx runUnderlying24 rfl sizeOf3 (by decide) rfl) ?_
   refine ent_guardXT rfl rfl rfl rfl (decide_eq_false hg7) ?_
   refine ent_o rfl (ok_loadB (k := 0) isAgg3 rfl rfl rfl) ?_
   refine ent_guardXT rfl rfl rfl rfl (decide_eq_false hg7) ?_
   refine ent_o rfl (ok_call (prime_ok f.P (by have := ordS_pos hg7; omega) (by have := ordS_pos hg7; omega)) rfl) ?_
   refine ent_guardXT rfl rfl rfl rfl (decide_eq_false hg7) ?_
   refine ent_o rfl (ok_not rfl) ?_
   refine ent_o rfl (ok_pickF rfl (decide_eq_false hg7) rfl) ?_
   refine ent_nil ?_
   exact ent_rep ⟨rfl, slot_bool (dq_B ((or_iff_right hg7).trans Iff.rfl)), trivial⟩ rfl
  refine ent_guardXF rfl rfl rfl rfl (decide_eq_true hg7) ?_
  refine ent_guardXF rfl rfl rfl rfl (decide_eq_true hg7) ?_
  refine ent_guardXF rfl rfl rfl rfl (decide_eq_true hg7) ?_
  refine ent_o rfl (ok_pickT rfl (decide_eq_true hg7) rfl) ?_
  refine ent_nil ?_
  exact ent_rep ⟨rfl, slot_bool (dq_T rfl (Or.inl hg7)), trivial⟩ rfl
 refine ent_k K3 ?_
 refine ent_condD rfl (fun h12 => ?_) (fun h12 => ?_)
 ·refine esk rfl ?_
  refine ent_ret ?_
  exact retR1 (.inr rfl) results59 (resr_tmp (res_cv rfl (cv_int (by exact (fErr_no (fun h => h12.elim (fun h2 => h.1.1 h2) (fun h2 => by rw [h.1.2.1] at h2; exact absurd h2 (by decide)))).symm))))
 have hq : f.q ≠ 0 := fun h => h12 (.inl h)
 have hpr : isPr f.P = true := by by_cases h : isPr f.P = true; exact h; exact absurd (.inr (by rw [nt_to h]; rfl)) h12
 have hbd := ordS_pos hq
 refine esp K2 ?_
 refine ent_seq fun _ K5 => ?_
 refine esr rfl fun _ K6 => ?_
 refine ent_o rfl (ok_fieldAddrEx runUnderlying24 rfl sizeOf3 (by decide) rfl) ?_
 refine ent_o rfl (ok_loadB (k := 0) isAgg3 rfl rfl rfl) ?_
 refine ent_o rfl (ok_eql rfl rfl) ?_
 refine enk K6 ?_
 refine ent_condD rfl (fun h15 => ?_) (fun h15 => ?_)
 ·refine ent_seq fun _ K7 => ?_
  refine esr rfl fun _ K8 => ?_
  refine ent_o rfl (ok_fieldAddrEx runUnderlying24 rfl sizeOf22 (by decide) rfl) ?_
  refine ent_o rfl (ok_loadB (k := 0) isAgg22 rfl rfl rfl) ?_
  refine ent_o rfl (ok_len rfl runUnderlying22 rfl) ?_
  refine ent_o rfl (ok_neq rfl rfl) ?_
  refine enk K8 ?_
  refine ent_condD rfl (fun h19 => ?_) (fun h19 => ?_)
  ·refine esk rfl ?_
   refine ent_ret ?_
   exact retR1 (.inr rfl) results59 (resr_tmp (res_cv rfl (cv_int (by exact (fErr_no (fun h => by have := h.1.2.2; unfold modOk at this; rw [if_pos h15] at this; exact h19 this)).symm))))
  refine esp K7 ?_
  refine esk rfl ?_
  refine ent_ret ?_
  exact retR1 (.inr rfl) results59 (resr_tmp (res_cv rfl (cv_int (by exact (fErr_ok (fok_one ⟨hq, hpr, by unfold modOk; rw [if_pos h15]; exact Classical.not_not.1 h19⟩ h15)).symm))))
 refine esp K5 ?_
 refine ent_seq fun _ K11 => ?_
 refine esr rfl fun _ K12 => ?_
 refine ent_o rfl (ok_fieldAddrEx runUnderlying24 rfl sizeOf22 (by decide) rfl) ?_
 refine ent_o rfl (ok_loadB (k := 0) isAgg22 rfl rfl rfl) ?_
 refine ent_o rfl (ok_len rfl runUnderlying22 rfl) ?_
 refine ent_o rfl (ok_fieldAddrEx runUnderlying24 rfl sizeOf3 (by decide) rfl) ?_
 refine ent_o rfl (ok_loadB (k := 0) isAgg3 rfl rfl rfl) ?_
 refine ent_o rfl (ok_neq rfl rfl) ?_
 refine enk K12 ?_
 refine ent_condD rfl (fun h25 => ?_) (fun h25 => ?_)
 ·refine esk rfl ?_
  refine ent_ret ?_
  exact retR1 (.inr rfl) results59 (resr_tmp (res_cv rfl (cv_int (by exact (fErr_no (fun h => by have := h.1.2.2; unfold modOk at this; rw [if_neg h15] at this; exact h25 this.1)).symm))))
 refine esp K11 ?_
 refine ent_seq fun _ K14 => ?_
 refine esk rfl ?_
 refine ent_block ?_
 refine ent_loop (fun (i : Int) => (⟨[(1, aEx (.pointer (some ⟨b1_1, 0, none⟩))), (3, aInt i)], [oBox b1_1 24 [aInt f.P, aInt f.M, aSl 1 false aInt f.mod]]⟩ : St)) (fun (i : Int) => (0 ≤ i) ∧ (i ≤ f.M) ∧ (∀ c ∈ f.mod.take i.toNat, 0 ≤ c ∧ c < f.P)) (fun (i : Int) => (f.M - i).toNat) 0 ⟨(by omega), (by omega), (by simp)⟩ (ent_rep ⟨rfl, slot_av (av_int (show 0 = (0 : Int) by rfl)), trivial⟩ rfl) ?_
 rintro i ⟨h0, h1, hm⟩
 show Ent _ ⟨_, [_]⟩ _
 refine ent_seq fun _ K16 => ?_
 refine esr rfl fun _ K17 => ?_
 refine ent_o rfl (ok_fieldAddrEx runUnderlying24 rfl sizeOf3 (by decide) rfl) ?_
 refine ent_o rfl (ok_loadB (k := 0) isAgg3 rfl rfl rfl) ?_
 refine ent_o rfl (ok_lss rfl rfl) ?_
 refine enk K17 ?_
 refine ent_condD rfl (fun h29 => ?_) (fun h29 => ?_)
 ·refine esp K16 ?_
  refine ent_seq fun _ K18 => ?_
  refine ent_block ?_
  refine ent_seq fun _ K19 => ?_
  refine ent_cut (⟨[(1, aEx (.pointer (some ⟨b1_1, 0, none⟩))), (3, aInt i), (47, aBool (decide (((ix 0 f.mod i) < 0) ∨ (f.P ≤ (ix 0 f.mod i)))))], [oBox b1_1 24 [aInt f.P, aInt f.M, aSl 1 false aInt f.mod]]⟩) ?_ ?_
  ·refine ent_draw 16 mixed (by kernel_rfl) (by kernel_rfl) (by kernel_rfl) ?_
   refine dw_o rfl (ok_fieldAddrEx runUnderlying24 rfl sizeOf22 (by decide) rfl) ?_
   refine dw_o rfl (ok_loadB (k := 0) isAgg22 rfl rfl rfl) ?_
   refine dw_o rfl (ok_move rfl) ?_
   refine dw_o rfl (ok_index 0 sl22 rfl rfl (by omega) (by omega)) ?_
   refine dw_o rfl (ok_load ti3 rfl) ?_
   refine dw_o rfl (ok_lss rfl rfl) ?_
   refine dw_o rfl (ok_move rfl) ?_
   refine dw_guardDf rfl rfl rfl rfl (fun hg38 => ?_) (fun hg38 => ?_)
   ·refine dw_o rfl (ok_fieldAddrEx runUnderlying24 rfl sizeOf22 (by decide) rfl) ?_
    refine dw_guardT rfl rfl rfl rfl (decide_eq_false hg38) ?_
    refine dw_o rfl (ok_loadB (k := 0) isAgg22 rfl rfl rfl) ?_
    refine dw_guardT rfl rfl rfl rfl (decide_eq_false hg38) ?_
    refine dw_o rfl (ok_move rfl) ?_
    refine dw_guardT rfl rfl rfl rfl (decide_eq_false hg38) ?_
    refine dw_o rfl (ok_index 0 sl22 rfl rfl (by omega) (by omega)) ?_
    refine dw_guardT rfl rfl rfl rfl (decide_eq_false hg38) ?_
    refine dw_o rfl (ok_load ti3 rfl) ?_
    refine dw_guardT rfl rfl rfl rfl (decide_eq_false hg38) ?_
    refine dw_o rfl (ok_fieldAddrEx runUnderlying24 rfl sizeOf3 (by decide) rfl) ?_
    refine dw_guardT rfl rfl rfl rfl (decide_eq_false hg38) ?_
    refine dw_o rfl (ok_loadB (k := 0) isAgg3 rfl rfl rfl) ?_
    refine dw_guardT rfl rfl rfl rfl (decide_eq_false hg38) ?_
    refine dw_o rfl (ok_geq rfl rfl) ?_
    refine dw_o rfl (ok_pickF rfl (decide_eq_false hg38) rfl) ?_
    refine dw_nil ?_
    refine ent_nil ?_
    exact ent_rep ⟨rfl, rfl, slot_bool (dq_Q ((or_iff_right hg38).trans Iff.rfl)), trivial⟩ rfl
   refine dw_guardF rfl rfl rfl rfl (decide_eq_true hg38) ?_
   refine dw_guardF rfl rfl rfl rfl (decide_eq_true hg38) ?_
   refine dw_guardF rfl rfl rfl rfl (decide_eq_true hg38) ?_
   refine dw_guardF rfl rfl rfl rfl (decide_eq_true hg38) ?_
   refine dw_guardF rfl rfl rfl rfl (decide_eq_true hg38) ?_
   refine dw_guardF rfl rfl rfl rfl (decide_eq_true hg38) ?_
   refine dw_guardF rfl rfl rfl rfl (decide_eq_true hg38) ?_
   refine dw_o rfl (ok_pickT rfl (decide_eq_true hg38) rfl) ?_
   refine dw_nil ?_
   refine ent_nil ?_
   exact ent_rep ⟨rfl, rfl, slot_bool (dq_T rfl (Or.inl hg38)), trivial⟩ rfl
  refine ent_k K19 ?_
  refine ent_condD rfl (fun h47 => ?_) (fun h47 => ?_)
  ·refine esk rfl ?_
   refine ent_ret ?_
   exact retR1 (.inr rfl) results59 (resr_tmp (res_cv rfl (cv_int (by exact (fErr_no (fun h => by have := h.1.2.2; unfold modOk at this; rw [if_neg h15] at this; have := this.2 _ (ix_mem 0 f.mod h0 (by omega)); omega)).symm))))
  refine esp K18 ?_
  refine ent_region ?_
  refine emm rfl ?_
  refine ent_o rfl (ok_add rfl rfl (by omega) (by omega)) ?_
  refine emm rfl ?_
  refine ent_nil ?_
  refine ent_again (s := (i)) (i + 1) ⟨(by omega), ‹_›, (fun c hc => by rw [take_succ_ix 0 f.mod h0 (by omega)] at hc; rcases List.mem_append.1 hc with hc | hc; exact hm c hc; rw [List.mem_singleton] at hc; omega)⟩ (by omega) (ent_rep ⟨rfl, rfl, trivial⟩ rfl)
 have hS : Shape f := ⟨hq, hpr, by unfold modOk; rw [if_neg h15]; rw [List.take_of_length_le (by omega)] at hm; exact ⟨by omega, hm⟩⟩
 refine ent_exit ?_
 refine ent_k K14 ?_
 refine ent_seq fun _ K21 => ?_
 refine esr rfl fun _ K22 => ?_
 refine ent_o rfl (ok_fieldAddrEx runUnderlying24 rfl sizeOf22 (by decide) rfl) ?_
 refine ent_o rfl (ok_loadB (k := 0) isAgg22 rfl rfl rfl) ?_
 refine ent_o rfl (ok_fieldAddrEx runUnderlying24 rfl sizeOf3 (by decide) rfl) ?_
 refine ent_o rfl (ok_loadB (k := 0) isAgg3 rfl rfl rfl) ?_
 refine ent_o rfl (ok_call (irreducible_ok f ‹_› (by omega)) rfl) ?_
 refine ent_o rfl (ok_notD rfl) ?_
 refine enk K22 ?_
 refine ent_condD rfl (fun h53 => ?_) (fun h53 => ?_)
 ·refine esk rfl ?_
  refine ent_ret ?_
  exact retR1 (.inr rfl) results59 (resr_tmp (res_cv rfl (cv_int (by exact (fErr_no (fun h => h53 ((fok_iff_irrB hS).1 h))).symm))))
 refine esp K21 ?_
 refine esk rfl ?_
 refine ent_ret ?_
 exact retR1 (.inr rfl) results59 (resr_tmp (res_cv rfl (cv_int (by exact (fErr_ok ((fok_iff_irrB hS).2 (Classical.not_not.1 h53))).symm))))

theorem rIs_ok (f : Fld) (x : Int)  : Ctr Try.prog 69 [aFld f, aInt x] (aBool (decide (0 ≤ x ∧ x < f.q))) := by
 refine ctr_of Try.call69 func69 rfl rfl ?_
 intro w O
 refine ent_lenC 0 2 rfl rfl (fun hlen0_2 => ?_)
 refine esr rfl fun _ K1 => ?_
 refine ent_boxS rfl rfl (AllOne.mem ⟨(one_int _), (one_int _), one_sl, trivial⟩) (fun b2_1 => ?_)
 refine emm rfl ?_
 refine enk K1 ?_
 refine ent_seq fun _ K2 => ?_
 refine ent_cut (⟨[(4, aBool (decide ((0 ≤ x) ∧ (x < f.q))))], [oBox b2_1 24 [aInt f.P, aInt f.M, aSl 1 false aInt f.mod]]⟩) ?_ ?_
 ·refine ent_region ?_
  refine emm rfl ?_
  refine ent_o rfl (ok_geq rfl rfl) ?_
  refine emm rfl ?_
  refine ent_guardXDt rfl rfl rfl rfl (fun hg7 => ?_) (fun hg7 => ?_)
  ·refine emm rfl ?_
   refine ent_guardXT rfl rfl rfl rfl (decide_eq_true hg7) ?_
   refine ent_o rfl (ok_loadBS (k := 0) ti24 rfl rfl rfl) ?_
   refine ent_guardXT rfl rfl rfl rfl (decide_eq_true hg7) ?_
   refine ent_o rfl (ok_call (rOrder_ok f) rfl) ?_
   refine ent_guardXT rfl rfl rfl rfl (decide_eq_true hg7) ?_
   refine ent_o rfl (ok_lss rfl rfl) ?_
   refine ent_o rfl (ok_pickT rfl (decide_eq_true hg7) rfl) ?_
   refine emm rfl ?_
   refine ent_nil ?_
   exact ent_rep ⟨slot_bool (dq_Q ((and_iff_right hg7).trans Iff.rfl)), trivial⟩ rfl
  refine ent_guardXF rfl rfl rfl rfl (decide_eq_false hg7) ?_
  refine ent_guardXF rfl rfl rfl rfl (decide_eq_false hg7) ?_
  refine ent_guardXF rfl rfl rfl rfl (decide_eq_false hg7) ?_
  refine ent_o rfl (ok_pickF rfl (decide_eq_false hg7) rfl) ?_
  refine emm rfl ?_
  refine ent_nil ?_
  exact ent_rep ⟨slot_bool (dq_F rfl (fun h => hg7 h.1)), trivial⟩ rfl
 refine ent_k K2 ?_
 refine ent_ret ?_
 exact retR1 (.inr rfl) results69 (resr_tmp (res_cv rfl (cv_bool rfl)))

theorem rIn_ok (f : Fld) (x : Int)  : Ctr Try.prog 31 [aFld f, aInt x] (aInt (inF f x)) := by
 refine ctr_of Try.call31 func31 rfl rfl ?_
 intro w O
 refine ent_lenC 0 2 rfl rfl (fun hlen0_2 => ?_)
 refine esr rfl fun _ K1 => ?_
 refine ent_boxS rfl rfl (AllOne.mem ⟨(one_int _), (one_int _), one_sl, trivial⟩) (fun b2_1 => ?_)
 refine emm rfl ?_
 refine enk K1 ?_
 refine ent_seq fun _ K2 => ?_
 refine esr rfl fun _ K3 => ?_
 refine ent_o rfl (ok_loadBS (k := 0) ti24 rfl rfl rfl) ?_
 refine emm rfl ?_
 refine ent_o rfl (ok_call (rIs_ok f x) rfl) ?_
 refine enk K3 ?_
 refine ent_condD rfl (fun h7 => ?_) (fun h7 => ?_)
 ·refine esk rfl ?_
  refine ent_ret ?_
  exact retR1 (.inr rfl) results31 (resr_tmp (res_cv rfl (cv_int (by unfold inF; rw [if_pos h7]))))
 refine esp K2 ?_
 refine esk rfl ?_
 refine ent_ret ?_
 exact retR1 (.inr rfl) results31 (resr_tmp (res_cv rfl (cv_int (by unfold inF; rw [if_neg h7]))))

theorem rDigits_ok (f : Fld) (x : Int) (hS : Shape f) : CtrF Try.prog 104 [aFld f, aInt x] (aVec 3 1 false aInt (digS f.P f.M.toNat (inF f x))) := by
 have hb := hS.bd
 have hi := inF_lt hS x
 refine ctrF_of Try.call104 func104 rfl rfl ?_
 intro w O
 refine ent_lenC 0 2 rfl rfl (fun hlen0_2 => ?_)
 refine esr rfl fun _ K1 => ?_
 refine ent_boxS rfl rfl (AllOne.mem ⟨(one_int _), (one_int _), one_sl, trivial⟩) (fun b2_1 => ?_)
 refine emm rfl ?_
 refine enk K1 ?_
 refine ent_seq fun _ K2 => ?_
 refine ent_draw 7 mixed (by kernel_rfl) (by kernel_rfl) (by kernel_rfl) ?_
 refine dw_o rfl (ok_loadBS (k := 0) ti24 rfl rfl rfl) ?_
 refine dw_o rfl (ok_move rfl) ?_
 refine dw_o rfl (ok_call (rIn_ok f x) rfl) ?_
 refine dw_o rfl (ok_fieldAddrEx runUnderlying24 rfl sizeOf3 (by decide) rfl) ?_
 refine dw_o rfl (ok_loadB (k := 0) isAgg3 rfl rfl rfl) ?_
 refine dw_o rfl (ok_fieldAddrEx runUnderlying24 rfl sizeOf3 (by decide) rfl) ?_
 refine dw_o rfl (ok_loadB (k := 0) isAgg3 rfl rfl rfl) ?_
 refine dw_nil ?_
 refine ent_callV [] rfl (rdigits_ok (inF f x) f.P f.M (by omega) (by omega) (by omega) (by omega) (by omega)) (ArgsA.ok ⟨arg_a rfl (cv_id (sub_lent _)), arg_a rfl (cv_id (sub_lent _)), arg_a rfl (cv_id (sub_lent _)), trivial⟩) (fun r12 c12 => ?_)
 refine emm rfl ?_
 refine enk K2 ?_
 refine ent_ret ?_
 exact retR1 (.inr rfl) results104 (resr_tmp (res_cv rfl (cvF_vecV (k := 0) flat_int rfl rfl rfl rfl)))

theorem rValue_ok (f : Fld) (d : List Int) (hp : 2 ≤ f.P) (hd : ∀ c ∈ d, 0 ≤ c ∧ c < f.P) (hq : f.P ^ d.length ≤ 256) : Ctr Try.prog 105 [aFld f, aSl 1 false aInt d] (aInt (valS f.P d)) := by
 refine ctr_of Try.call105 func105 rfl rfl ?_
 intro w O
 refine ent_lenC 0 2 rfl rfl (fun hlen0_2 => ?_)
 refine ent_len 1 rfl (fun hlen1 => ?_)
 refine esr rfl fun _ K1 => ?_
 refine ent_boxS rfl rfl (AllOne.mem ⟨(one_int _), (one_int _), one_sl, trivial⟩) (fun b2_1 => ?_)
 refine emm rfl ?_
 refine enk K1 ?_
 refine esk rfl ?_
 refine ent_seq fun _ K3 => ?_
 refine esr rfl fun _ K4 => ?_
 refine ent_o rfl (ok_len rfl runUnderlying22 rfl) ?_
 refine ent_o rfl (ok_sub rfl rfl (by omega) (by omega)) ?_
 refine emm rfl ?_
 refine enk K4 ?_
 refine ent_block ?_
 refine ent_loop (fun (i : Int) => (⟨[(1, aSl 1 false aInt d), (2, aEx (.pointer (some ⟨b2_1, 0, none⟩))), (5, aInt (valS f.P (d.drop (i + 1).toNat))), (6, aInt i)], [oBox b2_1 24 [aInt f.P, aInt f.M, aSl 1 false aInt f.mod]]⟩ : St)) (fun (i : Int) => (-1 ≤ i) ∧ (i < d.length)) (fun (i : Int) => (i + 1).toNat) ((↑d.length : Int) - 1) ⟨(by omega), (by omega)⟩ (ent_rep ⟨rfl, rfl, slot_av (av_int (show 0 = valS f.P (d.drop (((↑d.length : Int) - 1) + 1).toNat) by rw [List.drop_of_length_le (by omega)]; rfl)), rfl, trivial⟩ rfl) ?_
 rintro i ⟨h0, h1⟩
 show Ent _ ⟨_, [_]⟩ _
 have hb := valS_drop_bd hp hd hq (i + 1).toNat
 refine ent_seq fun _ K5 => ?_
 refine esr rfl fun _ K6 => ?_
 refine ent_o rfl (ok_geq rfl rfl) ?_
 refine enk K6 ?_
 refine ent_condD rfl (fun h11 => ?_) (fun h11 => ?_)
 ·have hpb := base_bd hp hq (by omega)
  have hmb := mul_small hb.1 hb.2 (show 0 ≤ f.P by omega) hpb
  have hix := hd _ (ix_mem 0 d (i := i) (by omega) h1)
  refine esp K5 ?_
  refine ent_seq fun _ K7 => ?_
  refine ent_block ?_
  refine ent_draw 10 mixed (by kernel_rfl) (by kernel_rfl) (by kernel_rfl) ?_
  refine dw_o rfl (ok_move rfl) ?_
  refine dw_o rfl (ok_fieldAddrEx runUnderlying24 rfl sizeOf3 (by decide) rfl) ?_
  refine dw_o rfl (ok_loadB (k := 0) isAgg3 rfl rfl rfl) ?_
  refine dw_o rfl (ok_mul rfl rfl (by omega) (by omega)) ?_
  refine dw_o rfl (ok_move rfl) ?_
  refine dw_o rfl (ok_move rfl) ?_
  refine dw_o rfl (ok_index 0 sl22 rfl rfl (by omega) (by omega)) ?_
  refine dw_o rfl (ok_load ti3 rfl) ?_
  refine dw_o rfl (ok_add rfl rfl (by omega) (by omega)) ?_
  refine dw_o rfl (ok_assign rfl) ?_
  refine dw_nil ?_
  refine enk K7 ?_
  refine ent_region ?_
  refine emm rfl ?_
  refine ent_o rfl (ok_sub rfl rfl (by omega) (by omega)) ?_
  refine emm rfl ?_
  refine ent_nil ?_
  refine ent_again (s := (i)) (i - 1) ⟨(by omega), (by omega)⟩ (by omega) (ent_rep ⟨rfl, rfl, slot_av (av_int (show ((valS f.P (d.drop (i + 1).toNat)) * f.P) + (ix 0 d i) = valS f.P (d.drop ((i - 1) + 1).toNat) by rw [show i - 1 + 1 = i by omega]; exact (valS_drop f.P d (by omega) h1).symm)), rfl, trivial⟩ rfl)
 refine ent_exit ?_
 refine ent_k K3 ?_
 refine esk rfl ?_
 refine ent_ret ?_
 exact retR1 (.inr rfl) results105 (resr_tmp (res_cv rfl (cv_int (by rw [show i = -1 by omega]; rfl))))

theorem rMul_ok (f : Fld) (x y : Int) (hS : Shape f) : Ctr Try.prog 68 [aFld f, aInt x, aInt y] (aInt (mulF f x y)) := by
 have hb := hS.bd
 have hP := hS.pI
 have hM := hS.mI
 have hMN := hS.mN
 have hix := inF_lt hS x
 have hiy := inF_lt hS y
 have lx := length_digS f.P f.M.toNat (inF f x)
 have ly := length_digS f.P f.M.toNat (inF f y)
 refine ctr_of Try.call68 func68 rfl rfl ?_
 intro w O
 refine ent_lenC 0 2 rfl rfl (fun hlen0_2 => ?_)
 refine esr rfl fun _ K1 => ?_
 refine ent_boxS rfl rfl (AllOne.mem ⟨(one_int _), (one_int _), one_sl, trivial⟩) (fun b3_1 => ?_)
 refine emm rfl ?_
 refine enk K1 ?_
 refine esr rfl fun _ K2 => ?_
 refine ent_o rfl (ok_loadBS (k := 0) ti24 rfl rfl rfl) ?_
 refine emm rfl ?_
 refine ent_o rfl (ok_call (CtrF.ctr (CtrF.sl (rDigits_ok f x ‹_›))) rfl) ?_
 refine emm rfl ?_
 refine enk K2 ?_
 refine esr rfl fun _ K3 => ?_
 refine ent_o rfl (ok_loadBS (k := 0) ti24 rfl rfl rfl) ?_
 refine emm rfl ?_
 refine ent_o rfl (ok_call (CtrF.ctr (CtrF.sl (rDigits_ok f y ‹_›))) rfl) ?_
 refine emm rfl ?_
 refine enk K3 ?_
 refine esr rfl fun _ K4 => ?_
 refine ent_o rfl (ok_fieldAddrEx runUnderlying24 rfl sizeOf3 (by decide) rfl) ?_
 refine ent_o rfl (ok_loadB (k := 0) isAgg3 rfl rfl rfl) ?_
 refine ent_o rfl (ok_mul rfl rfl (by omega) (by omega)) ?_
 refine ent_o rfl (ok_sub rfl rfl (by omega) (by omega)) ?_
 refine ent_make aInt 0 rfl vt22 rfl rfl (by omega) (by omega) (by omega) (fun _ _ => rfl) (AllV.mem ⟨rfl, trivial⟩) (fun b24_2 => ?_)
 refine emm rfl ?_
 refine enk K4 ?_
 refine ent_seq fun _ K5 => ?_
 refine esk rfl ?_
 refine ent_block ?_
 refine ent_loop (fun (ss : Int × List Int) => match ss with | (i, cs) => (⟨[(3, aEx (.pointer (some ⟨b3_1, 0, none⟩))), (7, aSl 1 false aInt (digS f.P f.M.toNat (inF f x))), (8, aSl 1 false aInt (digS f.P f.M.toNat (inF f y))), (9, aEx (vec (some b24_2) (((2 * f.M) - 1).toNat) (((2 * f.M) - 1).toNat))), (10, aInt i)], [oVec (some b24_2) (((2 * f.M) - 1).toNat) 3 1 false aInt cs, oBox b3_1 24 [aInt f.P, aInt f.M, aSl 1 false aInt f.mod]]⟩ : St)) (fun (ss : Int × List Int) => match ss with | (i, cs) => (0 ≤ i) ∧ (i ≤ f.M) ∧ ((cs.length : Int) = 2 * f.M - 1) ∧ (∀ z ∈ cs, 0 ≤ z ∧ z < (f.p : Int)) ∧ (f.R.act (2 * f.R.m - 1) (dv cs) f.R.e0 = f.R.vadd (f.R.act i.toNat (f.R.elt (inF f x)) (f.R.act f.R.m (f.R.elt (inF f y)) f.R.e0)) (f.R.smul (f.R.elt (inF f x) i.toNat) (f.R.pw i.toNat (f.R.act (0 : Int).toNat (f.R.elt (inF f y)) f.R.e0))))) (fun (ss : Int × List Int) => match ss with | (i, cs) => (f.M - i).toNat) (0, List.replicate (((2 * f.M) - 1).toNat) 0) ⟨(by omega), (by omega), (by simp; omega), (fun z hz => by have := (List.mem_replicate.1 hz).2; omega), (conv_start _ _ _)⟩ (ent_rep ⟨rfl, rfl, rfl, rfl, slot_av (av_int (show 0 = (0 : Int) by rfl)), trivial⟩ rfl) ?_
 rintro ⟨i, cs⟩ ⟨h0, h1, lcs, rcs, hX⟩
 show Ent _ ⟨_, [_, _]⟩ _
 refine ent_seq fun _ K7 => ?_
 refine esr rfl fun _ K8 => ?_
 refine ent_o rfl (ok_fieldAddrEx runUnderlying24 rfl sizeOf3 (by decide) rfl) ?_
 refine ent_o rfl (ok_loadB (k := 1) isAgg3 rfl rfl rfl) ?_
 refine ent_o rfl (ok_lss rfl rfl) ?_
 refine enk K8 ?_
 refine ent_condD rfl (fun h28 => ?_) (fun h28 => ?_)
 ·refine esp K7 ?_
  refine ent_seq fun _ K9 => ?_
  refine ent_block ?_
  refine esk rfl ?_
  refine ent_block ?_
  refine ent_loop (fun (ss : Int × List Int) => match ss with | (j, ds) => (⟨[(3, aEx (.pointer (some ⟨b3_1, 0, none⟩))), (7, aSl 1 false aInt (digS f.P f.M.toNat (inF f x))), (8, aSl 1 false aInt (digS f.P f.M.toNat (inF f y))), (9, aEx (vec (some b24_2) (((2 * f.M) - 1).toNat) (((2 * f.M) - 1).toNat))), (10, aInt i), (11, aInt j)], [oVec (some b24_2) (((2 * f.M) - 1).toNat) 3 1 false aInt ds, oBox b3_1 24 [aInt f.P, aInt f.M, aSl 1 false aInt f.mod]]⟩ : St)) (fun (ss : Int × List Int) => match ss with | (j, ds) => (0 ≤ j) ∧ (j ≤ f.M) ∧ ((ds.length : Int) = 2 * f.M - 1) ∧ (∀ z ∈ ds, 0 ≤ z ∧ z < (f.p : Int)) ∧ (f.R.act (2 * f.R.m - 1) (dv ds) f.R.e0 = f.R.vadd (f.R.act i.toNat (f.R.elt (inF f x)) (f.R.act f.R.m (f.R.elt (inF f y)) f.R.e0)) (f.R.smul (f.R.elt (inF f x) i.toNat) (f.R.pw i.toNat (f.R.act j.toNat (f.R.elt (inF f y)) f.R.e0))))) (fun (ss : Int × List Int) => match ss with | (j, ds) => (f.M - j).toNat) (0, cs) ⟨(by omega), (by omega), ‹_›, rcs, hX⟩ (ent_rep ⟨rfl, rfl, rfl, rfl, rfl, slot_av (av_int (show 0 = (0 : Int) by rfl)), trivial⟩ rfl) ?_
  rintro ⟨j, ds⟩ ⟨j0, j1, lds, rds, tX⟩
  show Ent _ ⟨_, [_, _]⟩ _
  refine ent_seq fun _ K11 => ?_
  refine esr rfl fun _ K12 => ?_
  refine ent_o rfl (ok_fieldAddrEx runUnderlying24 rfl sizeOf3 (by decide) rfl) ?_
  refine ent_o rfl (ok_loadB (k := 1) isAgg3 rfl rfl rfl) ?_
  refine ent_o rfl (ok_lss rfl rfl) ?_
  refine enk K12 ?_
  refine ent_condD rfl (fun h34 => ?_) (fun h34 => ?_)
  ·have hdx := hS.dig_ix (inF f x) h0 (show i < f.M by omega)
   have hdy := hS.dig_ix (inF f y) j0 (show j < f.M by omega)
   have hmm := mul_small hdx.1 (by omega) hdy.1 (show ix 0 (digS f.P f.M.toNat (inF f y)) j ≤ 256 by omega)
   have hrj := rds _ (ix_mem 0 ds (i := i + j) (by omega) (by omega))
   have hst := conv_list hS lds rds h0 (show i < f.M by omega) j0 (show j < f.M by omega) tX
   refine esp K11 ?_
   refine ent_seq fun _ K13 => ?_
   refine ent_block ?_
   refine ent_draw 24 mixed (by kernel_rfl) (drawQ_F (by kernel_rfl)) (by kernel_rfl) ?_
   refine dw_o rfl (ok_move rfl) ?_
   refine dw_o rfl (ok_move rfl) ?_
   refine dw_o rfl (ok_move rfl) ?_
   refine dw_o rfl (ok_add rfl rfl (by omega) (by omega)) ?_
   refine dw_o rfl (ok_move rfl) ?_
   refine dw_o rfl (ok_move rfl) ?_
   refine dw_o rfl (ok_move rfl) ?_
   refine dw_o rfl (ok_add rfl rfl (by omega) (by omega)) ?_
   refine dw_o rfl (ok_indexV sl22 rfl rfl (by omega) (by omega)) ?_
   refine dw_o rfl (ok_loadV (k := 0) 0 ti3 rfl rfl (by omega) (by omega)) ?_
   refine dw_o rfl (ok_move rfl) ?_
   refine dw_o rfl (ok_move rfl) ?_
   refine dw_o rfl (ok_index 0 sl22 rfl rfl (by omega) (by omega)) ?_
   refine dw_o rfl (ok_load ti3 rfl) ?_
   refine dw_o rfl (ok_move rfl) ?_
   refine dw_o rfl (ok_move rfl) ?_
   refine dw_o rfl (ok_index 0 sl22 rfl rfl (by omega) (by omega)) ?_
   refine dw_o rfl (ok_load ti3 rfl) ?_
   refine dw_o rfl (ok_mul rfl rfl (by omega) (by omega)) ?_
   refine dw_o rfl (ok_add rfl rfl (by omega) (by omega)) ?_
   refine dw_o rfl (ok_fieldAddrEx runUnderlying24 rfl sizeOf3 (by decide) rfl) ?_
   refine dw_o rfl (ok_loadB (k := 1) isAgg3 rfl rfl rfl) ?_
   refine dw_o rfl (ok_rem rfl rfl (by omega) (by omega)) ?_
   refine dw_o rfl (ok_indexV sl22 rfl rfl (by omega) (by omega)) ?_
   refine dw_nil ?_
   refine ent_storeV (k := 0) (z := ((ix 0 ds (i + j)) + ((ix 0 (digS f.P f.M.toNat (inF f x)) i) * (ix 0 (digS f.P f.M.toNat (inF f y)) j))) % f.P) ti3 rfl rfl rfl (elem_one (one_int _)) (by omega) (by omega) ?_
   refine enk K13 ?_
   refine ent_region ?_
   refine emm rfl ?_
   refine ent_o rfl (ok_add rfl rfl (by omega) (by omega)) ?_
   refine emm rfl ?_
   refine ent_nil ?_
   refine ent_again (s := (j, ds)) (j + 1, List.set ds (i + j).toNat (((ix 0 ds (i + j)) + ((ix 0 (digS f.P f.M.toNat (inF f x)) i) * (ix 0 (digS f.P f.M.toNat (inF f y)) j))) % f.P)) ⟨(by omega), ‹_›, (by rw [List.length_set]; exact lds), hst.1, hst.2⟩ (by dsimp only; omega) (ent_rep ⟨rfl, rfl, rfl, rfl, rfl, rfl, trivial⟩ rfl)
  refine ent_exit ?_
  refine ent_k K9 ?_
  refine ent_region ?_
  refine emm rfl ?_
  refine ent_o rfl (ok_add rfl rfl (by omega) (by omega)) ?_
  refine emm rfl ?_
  refine ent_nil ?_
  refine ent_again (s := (i, cs)) (i + 1, ds) ⟨(by omega), ‹_›, ‹_›, ‹_›, (conv_next h0 (by rw [show j.toNat = f.R.m by omega] at tX; exact tX))⟩ (by dsimp only; omega) (ent_rep ⟨rfl, rfl, rfl, rfl, rfl, trivial⟩ rfl)
 refine ent_exit ?_
 refine ent_k K5 ?_
 refine ent_seq fun _ K14 => ?_
 refine esr rfl fun _ K15 => ?_
 refine ent_o rfl (ok_fieldAddrEx runUnderlying24 rfl sizeOf3 (by decide) rfl) ?_
 refine ent_o rfl (ok_loadB (k := 1) isAgg3 rfl rfl rfl) ?_
 refine ent_o rfl (ok_mul rfl rfl (by omega) (by omega)) ?_
 refine ent_o rfl (ok_sub rfl rfl (by omega) (by omega)) ?_
 refine emm rfl ?_
 refine enk K15 ?_
 refine ent_block ?_
 refine ent_loop (fun (ss : Int × List Int) => match ss with | (k, es) => (⟨[(3, aEx (.pointer (some ⟨b3_1, 0, none⟩))), (9, aEx (vec (some b24_2) (((2 * f.M) - 1).toNat) (((2 * f.M) - 1).toNat))), (12, aInt k)], [oVec (some b24_2) (((2 * f.M) - 1).toNat) 3 1 false aInt es, oBox b3_1 24 [aInt f.P, aInt f.M, aSl 1 false aInt f.mod]]⟩ : St)) (fun (ss : Int × List Int) => match ss with | (k, es) => (f.M - 1 ≤ k) ∧ (k ≤ 2 * f.M - 2) ∧ ((es.length : Int) = 2 * f.M - 1) ∧ (∀ z ∈ es, 0 ≤ z ∧ z < (f.p : Int)) ∧ (f.R.act (k + 1).toNat (dv es) f.R.e0 = f.R.mul (f.R.elt (inF f x)) (f.R.elt (inF f y)))) (fun (ss : Int × List Int) => match ss with | (k, es) => (k + 1).toNat) (2 * f.M - 2, cs) ⟨(by omega), (by omega), ‹_›, rcs, (by rw [show (2 * f.M - 2 + 1).toNat = 2 * f.R.m - 1 by omega]; exact conv_end (by omega) hX)⟩ (ent_rep ⟨rfl, rfl, slot_av (av_int (show (2 * f.M) - 2 = (2 * f.M - 2) by rfl)), trivial⟩ rfl) ?_
 rintro ⟨k, es⟩ ⟨k0, k1, les, res, eX⟩
 show Ent _ ⟨_, [_, _]⟩ _
 refine ent_seq fun _ K16 => ?_
 refine esr rfl fun _ K17 => ?_
 refine ent_o rfl (ok_fieldAddrEx runUnderlying24 rfl sizeOf3 (by decide) rfl) ?_
 refine ent_o rfl (ok_loadB (k := 1) isAgg3 rfl rfl rfl) ?_
 refine ent_o rfl (ok_geq rfl rfl) ?_
 refine enk K17 ?_
 refine ent_condD rfl (fun h68 => ?_) (fun h68 => ?_)
 ·refine esp K16 ?_
  refine ent_seq fun _ K18 => ?_
  refine ent_block ?_
  refine esk rfl ?_
  refine ent_block ?_
  refine ent_loop (fun (ss : Int × List Int) => match ss with | (l, gs) => (⟨[(3, aEx (.pointer (some ⟨b3_1, 0, none⟩))), (9, aEx (vec (some b24_2) (((2 * f.M) - 1).toNat) (((2 * f.M) - 1).toNat))), (12, aInt k), (13, aInt l)], [oVec (some b24_2) (((2 * f.M) - 1).toNat) 3 1 false aInt gs, oBox b3_1 24 [aInt f.P, aInt f.M, aSl 1 false aInt f.mod]]⟩ : St)) (fun (ss : Int × List Int) => match ss with | (l, gs) => (0 ≤ l) ∧ (l ≤ f.M) ∧ ((gs.length : Int) = 2 * f.M - 1) ∧ (∀ z ∈ gs, 0 ≤ z ∧ z < (f.p : Int)) ∧ (f.R.vadd (f.R.act k.toNat (dv gs) f.R.e0) (f.R.smul (dv gs k.toNat) (f.R.vadd (f.R.pw k.toNat f.R.e0) (f.R.pw (k.toNat - f.R.m) (f.R.act l.toNat f.R.md f.R.e0)))) = f.R.mul (f.R.elt (inF f x)) (f.R.elt (inF f y)))) (fun (ss : Int × List Int) => match ss with | (l, gs) => (f.M - l).toNat) (0, es) ⟨(by omega), (by omega), ‹_›, res, (Rg.red_start f.R (dv es) k.toNat _ (by rw [show k.toNat + 1 = (k + 1).toNat by omega]; exact eX))⟩ (ent_rep ⟨rfl, rfl, rfl, slot_av (av_int (show 0 = (0 : Int) by rfl)), trivial⟩ rfl) ?_
  rintro ⟨l, gs⟩ ⟨l0, l1, lgs, rgs, gX⟩
  show Ent _ ⟨_, [_, _]⟩ _
  refine ent_seq fun _ K20 => ?_
  refine esr rfl fun _ K21 => ?_
  refine ent_o rfl (ok_fieldAddrEx runUnderlying24 rfl sizeOf3 (by decide) rfl) ?_
  refine ent_o rfl (ok_loadB (k := 1) isAgg3 rfl rfl rfl) ?_
  refine ent_o rfl (ok_lss rfl rfl) ?_
  refine enk K21 ?_
  refine ent_condD rfl (fun h74 => ?_) (fun h74 => ?_)
  ·have h1M : 1 < f.M := by omega
   have hml := hS.mod_len h1M
   have hlo := hml.2 _ (ix_mem 0 f.mod (i := l) l0 (by omega))
   have hlw := hS.low (j := l) l0 (by omega)
   have hle : lowF f l = ix 0 f.mod l := if_pos h1M
   rw [hle] at hlw
   have hck := rgs _ (ix_mem 0 gs (i := k) (by omega) (by omega))
   have hcj := rgs _ (ix_mem 0 gs (i := k - f.M + l) (by omega) (by omega))
   have hmm := mul_small (show 0 ≤ f.P - ix 0 gs k by omega) (by omega) hlo.1 (by omega)
   have hst := red_list (d := f.M) (i := k) (c := ix 0 gs k) (l := ix 0 f.mod l) (j := l) f.R hM hlw.2.symm rgs (by omega) (by omega) l0 (by omega) rfl hck.1 (by omega) hlo.1 _ gX
   rw [hP] at hst
   refine esp K20 ?_
   refine ent_seq fun _ K22 => ?_
   refine ent_block ?_
   refine ent_draw 34 mixed (by kernel_rfl) (drawQ_F (by kernel_rfl)) (by kernel_rfl) ?_
   refine dw_o rfl (ok_move rfl) ?_
   refine dw_o rfl (ok_move rfl) ?_
   refine dw_o rfl (ok_fieldAddrEx runUnderlying24 rfl sizeOf3 (by decide) rfl) ?_
   refine dw_o rfl (ok_loadB (k := 1) isAgg3 rfl rfl rfl) ?_
   refine dw_o rfl (ok_sub rfl rfl (by omega) (by omega)) ?_
   refine dw_o rfl (ok_move rfl) ?_
   refine dw_o rfl (ok_add rfl rfl (by omega) (by omega)) ?_
   refine dw_o rfl (ok_move rfl) ?_
   refine dw_o rfl (ok_move rfl) ?_
   refine dw_o rfl (ok_fieldAddrEx runUnderlying24 rfl sizeOf3 (by decide) rfl) ?_
   refine dw_o rfl (ok_loadB (k := 1) isAgg3 rfl rfl rfl) ?_
   refine dw_o rfl (ok_sub rfl rfl (by omega) (by omega)) ?_
   refine dw_o rfl (ok_move rfl) ?_
   refine dw_o rfl (ok_add rfl rfl (by omega) (by omega)) ?_
   refine dw_o rfl (ok_indexV sl22 rfl rfl (by omega) (by omega)) ?_
   refine dw_o rfl (ok_loadV (k := 0) 0 ti3 rfl rfl (by omega) (by omega)) ?_
   refine dw_o rfl (ok_fieldAddrEx runUnderlying24 rfl sizeOf3 (by decide) rfl) ?_
   refine dw_o rfl (ok_loadB (k := 1) isAgg3 rfl rfl rfl) ?_
   refine dw_o rfl (ok_move rfl) ?_
   refine dw_o rfl (ok_move rfl) ?_
   refine dw_o rfl (ok_indexV sl22 rfl rfl (by omega) (by omega)) ?_
   refine dw_o rfl (ok_loadV (k := 0) 0 ti3 rfl rfl (by omega) (by omega)) ?_
   refine dw_o rfl (ok_sub rfl rfl (by omega) (by omega)) ?_
   refine dw_o rfl (ok_fieldAddrEx runUnderlying24 rfl sizeOf22 (by decide) rfl) ?_
   refine dw_o rfl (ok_loadB (k := 1) isAgg22 rfl rfl rfl) ?_
   refine dw_o rfl (ok_move rfl) ?_
   refine dw_o rfl (ok_index 0 sl22 rfl rfl (by omega) (by omega)) ?_
   refine dw_o rfl (ok_load ti3 rfl) ?_
   refine dw_o rfl (ok_mul rfl rfl (by omega) (by omega)) ?_
   refine dw_o rfl (ok_add rfl rfl (by omega) (by omega)) ?_
   refine dw_o rfl (ok_fieldAddrEx runUnderlying24 rfl sizeOf3 (by decide) rfl) ?_
   refine dw_o rfl (ok_loadB (k := 1) isAgg3 rfl rfl rfl) ?_
   refine dw_o rfl (ok_rem rfl rfl (by omega) (by omega)) ?_
   refine dw_o rfl (ok_indexV sl22 rfl rfl (by omega) (by omega)) ?_
   refine dw_nil ?_
   refine ent_storeV (k := 0) (z := ((ix 0 gs ((k - f.M) + l)) + ((f.P - (ix 0 gs k)) * (ix 0 f.mod l))) % f.P) ti3 rfl rfl rfl (elem_one (one_int _)) (by omega) (by omega) ?_
   refine enk K22 ?_
   refine ent_region ?_
   refine emm rfl ?_
   refine ent_o rfl (ok_add rfl rfl (by omega) (by omega)) ?_
   refine emm rfl ?_
   refine ent_nil ?_
   refine ent_again (s := (l, gs)) (l + 1, List.set gs ((k - f.M) + l).toNat (((ix 0 gs ((k - f.M) + l)) + ((f.P - (ix 0 gs k)) * (ix 0 f.mod l))) % f.P)) ⟨(by omega), ‹_›, (by rw [List.length_set]; exact lgs), (by rw [hP]; exact hst.1), hst.2.2⟩ (by dsimp only; omega) (ent_rep ⟨rfl, rfl, rfl, rfl, trivial⟩ rfl)
  refine ent_exit ?_
  refine ent_k K18 ?_
  refine ent_region ?_
  refine emm rfl ?_
  refine ent_o rfl (ok_sub rfl rfl (by omega) (by omega)) ?_
  refine emm rfl ?_
  refine ent_nil ?_
  refine ent_again (s := (k, es)) (k - 1, gs) ⟨(by omega), (by omega), lgs, rgs, (by rw [show (k - 1 + 1).toNat = k.toNat by omega]; refine Rg.red_end f.R (dv gs) k.toNat _ (by omega) ?_; rw [show l.toNat = f.R.m by omega] at gX; exact gX)⟩ (by dsimp only; omega) (ent_rep ⟨rfl, rfl, rfl, trivial⟩ rfl)
 have hke : k = f.M - 1 := by omega
 have htv : valS f.P (List.take f.M.toNat es) = f.R.num (f.R.mul (f.R.elt (inF f x)) (f.R.elt (inF f y))) := take_val hS (by omega) res _ (by rw [show (k + 1).toNat = f.R.m by omega] at eX; exact eX)
 rw [mulc_num] at htv
 have hmem : ∀ c ∈ List.take f.M.toNat es, 0 ≤ c ∧ c < f.P := fun c hc => by have := res c (List.mem_of_mem_take hc); omega
 have hpq : f.P ^ (List.take f.M.toNat es).length ≤ 256 := by rw [List.length_take, show min f.M.toNat es.length = f.M.toNat by omega]; omega
 refine ent_exit ?_
 refine ent_k K14 ?_
 refine ent_seq fun _ K23 => ?_
 refine ent_give 0 9 rfl (cv_vec (k := 0) (off_erase rfl) (by omega) rfl) ?_
 refine ent_draw 7 mixed (by kernel_rfl) (by kernel_rfl) (by kernel_rfl) ?_
 refine dw_o rfl (ok_loadBS (k := 0) ti24 rfl rfl rfl) ?_
 refine dw_o rfl (ok_move rfl) ?_
 refine dw_o rfl (ok_fieldAddrEx runUnderlying24 rfl sizeOf3 (by decide) rfl) ?_
 refine dw_o rfl (ok_loadB (k := 0) isAgg3 rfl rfl rfl) ?_
 refine dw_o rfl (ok_sliceTo sl22 rfl rfl (by omega) (by omega)) ?_
 refine dw_o rfl (ok_call (rValue_ok f (List.take (f.M).toNat es) (by omega) ‹_› ‹_›) rfl) ?_
 refine dw_o rfl (ok_assign rfl) ?_
 refine dw_nil ?_
 refine enk K23 ?_
 refine ent_ret ?_
 exact retR1 (.inr rfl) results68 (resr_tmp (res_cv rfl (cv_int (by exact htv))))
end Go.Proofs.Ytfjhbdfgbpcchaa

