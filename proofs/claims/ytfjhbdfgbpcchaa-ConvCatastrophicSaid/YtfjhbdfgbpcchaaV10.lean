/-
  Walks of functions of the program and the reference.
-/
import Derived.Test.YtfjhbdfgbpcchaaV6
set_option linter.unnecessarySimpa false
open Go Go.Cw
namespace Go.Proofs.Ytfjhbdfgbpcchaa
open Try
set_option maxRecDepth 100000
set_option linter.unusedVariables false
set_option linter.unusedSimpArgs false

abbrev aCnv (c : Cnv) : AV := aAgg [aInt c.F.P, aInt c.F.M, aInts c.F.mod, aSl 1 false aRows c.Gen]
noncomputable abbrev aMach (c : Cnv) : AV := aAt 9 true (aAgg [aGF c.F, aSl 1 false aRows c.canon, aInt c.k, aInt c.n, aInts c.degs, aInt c.mem, aInt c.F.q, aInt c.states, aInts c.fsts])

theorem trim_ok (l : List Int)  : Ctr Try.prog 115 [aSl 1 false aInt l] (aSl 1 false aInt (trimL l)) := by
 refine ctr_of Try.call115 func115 rfl rfl ?_
 intro w O
 refine ent_len 0 rfl (fun hlen0 => ?_)
 refine esk rfl ?_
 refine ent_seq fun _ K2 => ?_
 refine ent_block ?_
 refine ent_loop (fun (k : Int) => (⟨[(0, aSl 1 false aInt (List.take k.toNat l))], []⟩ : St)) (fun (k : Int) => ((trimN l : Int) ≤ k) ∧ (k ≤ l.length)) (fun (k : Int) => k.toNat) (l.length : Int) ⟨(by have := trimN_le l; omega), (by omega)⟩ (ent_rep ⟨slot_av (av_sl (show l = List.take (l.length : Int).toNat l by rw [List.take_of_length_le (by omega)])), trivial⟩ rfl) ?_
 rintro k ⟨h0, h1⟩
 show Ent _ ⟨_, []⟩ _
 have hl : (List.take k.toNat l).length = k.toNat := by rw [List.length_take]; omega
 have hx : 0 < k → ix 0 (List.take k.toNat l) (↑(List.take k.toNat l).length - 1) = ix 0 l (k - 1) := fun hk => by rw [hl, show ((k.toNat : Nat) : Int) - 1 = k - 1 by omega]; exact ix_take l (by omega) (by omega)
 refine ent_seq fun _ K3 => ?_
 refine ent_seq fun _ K4 => ?_
 refine ent_cut (⟨[(0, aSl 1 false aInt (List.take k.toNat l)), (14, aBool (decide ((0 < (↑(List.take k.toNat l).length : Int)) ∧ ((ix 0 (List.take k.toNat l) ((↑(List.take k.toNat l).length : Int) - 1)) = 0))))], []⟩) ?_ ?_
 ·refine ent_region ?_
  refine emm rfl ?_
  refine ent_o rfl (ok_len rfl runUnderlying22 rfl) ?_
  refine ent_o rfl (ok_gtr rfl rfl) ?_
  refine emm rfl ?_
  refine ent_guardXDt rfl rfl rfl rfl (fun hg6 => ?_) (fun hg6 => ?_)
  ·refine emm rfl ?_
   refine ent_guardXT rfl rfl rfl rfl (decide_eq_true hg6) ?_
   refine emm rfl ?_
   refine ent_guardXT rfl rfl rfl rfl (decide_eq_true hg6) ?_
   refine ent_o rfl (ok_len rfl runUnderlying22 rfl) ?_
   refine ent_guardXT rfl rfl rfl rfl (decide_eq_true hg6) ?_
   refine ent_o rfl (ok_sub rfl rfl (by omega) (by omega)) ?_
   refine ent_guardXT rfl rfl rfl rfl (decide_eq_true hg6) ?_
   refine ent_o rfl (ok_index 0 sl22 rfl rfl (by omega) (by omega)) ?_
   refine ent_guardXT rfl rfl rfl rfl (decide_eq_true hg6) ?_
   refine ent_o rfl (ok_load ti3 rfl) ?_
   refine ent_guardXT rfl rfl rfl rfl (decide_eq_true hg6) ?_
   refine ent_o rfl (ok_eql rfl rfl) ?_
   refine ent_o rfl (ok_pickT rfl (decide_eq_true hg6) rfl) ?_
   refine ent_nil ?_
   exact ent_rep ⟨rfl, slot_bool (dq_Q ((and_iff_right hg6).trans Iff.rfl)), trivial⟩ rfl
  refine ent_guardXF rfl rfl rfl rfl (decide_eq_false hg6) ?_
  refine ent_guardXF rfl rfl rfl rfl (decide_eq_false hg6) ?_
  refine ent_guardXF rfl rfl rfl rfl (decide_eq_false hg6) ?_
  refine ent_guardXF rfl rfl rfl rfl (decide_eq_false hg6) ?_
  refine ent_guardXF rfl rfl rfl rfl (decide_eq_false hg6) ?_
  refine ent_guardXF rfl rfl rfl rfl (decide_eq_false hg6) ?_
  refine ent_o rfl (ok_pickF rfl (decide_eq_false hg6) rfl) ?_
  refine ent_nil ?_
  exact ent_rep ⟨rfl, slot_bool (dq_F rfl (fun h => hg6 h.1)), trivial⟩ rfl
 refine ent_k K4 ?_
 refine ent_condD rfl (fun h14 => ?_) (fun h14 => ?_)
 ·have hkp : 0 < k := by omega
  replace hx := hx hkp
  refine esp K3 ?_
  refine ent_block ?_
  refine ent_region ?_
  refine emm rfl ?_
  refine ent_o rfl (ok_len rfl runUnderlying22 rfl) ?_
  refine ent_o rfl (ok_sub rfl rfl (by omega) (by omega)) ?_
  refine ent_o rfl (ok_sliceTo sl22 rfl rfl (by omega) (by omega)) ?_
  refine emm rfl ?_
  refine ent_nil ?_
  refine ent_again (s := (k)) (k - 1) ⟨(trimN_step h0 (by omega) h1 (by rw [← hx]; exact h14.2)), (by omega)⟩ (by omega) (ent_rep ⟨slot_av (av_sl (show List.take ((↑(List.take k.toNat l).length : Int) - 1).toNat (List.take k.toNat l) = List.take (k - 1).toNat l by rw [List.take_take, hl]; congr 1; omega)), trivial⟩ rfl)
 refine ent_exit ?_
 refine ent_k K2 ?_
 refine esk rfl ?_
 refine ent_ret ?_
 exact retR1 (.inr rfl) results115 (resr_tmp (res_cv rfl (cv_sl sub_x (by unfold trimL; rw [trimN_stop (k := k) h0 (by omega) (fun h => h14 ⟨by omega, by rw [hx h.1]; exact h.2⟩)]; rfl))))

theorem Canon_ok (f : Fld) (l : List Int) (hll : (l.length : Int) ≤ 1000000) : Ctr Try.prog 97 [aGF f, aSl 1 false aInt l] (aSl 1 false aInt (trimL (l.map (inF f)))) := by
 refine ctr_of Try.call97 func97 rfl rfl ?_
 intro w O
 refine ent_lenP 0 4 rfl rfl (fun hlen0_4 => ?_)
 refine ent_lenP 0 5 rfl rfl (fun hlen0_5 => ?_)
 refine ent_len 1 rfl (fun hlen1 => ?_)
 refine esk rfl ?_
 refine esr rfl fun _ K2 => ?_
 refine ent_o rfl (ok_len rfl runUnderlying22 rfl) ?_
 refine ent_make aInt 0 rfl vt22 rfl rfl (by omega) (by omega) (by omega) (fun _ _ => rfl) (AllV.mem ⟨rfl, trivial⟩) (fun b10_1 => ?_)
 refine emm rfl ?_
 refine enk K2 ?_
 refine ent_seq fun _ K3 => ?_
 refine esr rfl fun _ K4 => ?_
 refine ent_o rfl (ok_len rfl runUnderlying22 rfl) ?_
 refine emm rfl ?_
 refine enk K4 ?_
 refine ent_block ?_
 refine ent_loop (fun (i : Int) => (⟨[(0, aGF f), (5, aEx (vec (some b10_1) (((↑l.length : Int)).toNat) (((↑l.length : Int)).toNat))), (11, aSl 1 false aInt l), (12, aInt (↑l.length : Int)), (13, aInt i)], [oVec (some b10_1) (((↑l.length : Int)).toNat) 3 1 false aInt (mixL (l.map (inF f)) (List.replicate l.length 0) i)]⟩ : St)) (fun (i : Int) => (0 ≤ i) ∧ (i ≤ l.length)) (fun (i : Int) => (l.length - i).toNat) 0 ⟨(by omega), (by omega)⟩ (ent_rep ⟨rfl, rfl, rfl, rfl, slot_av (av_int (show 0 = (0 : Int) by rfl)), trivial⟩ (own_cons (own_vec (show mixL (l.map (inF f)) (List.replicate l.length 0) (0 : Int) = List.replicate (((↑l.length : Int)).toNat) 0 by exact mixL_zero _ _)) (rfl))) ?_
 rintro i ⟨h0, h1⟩
 show Ent _ ⟨_, [_]⟩ _
 have lm : (mixL (l.map (inF f)) (List.replicate l.length 0) i).length = l.length := by rw [length_mixL _ _ (by simp)]; simp
 refine esr rfl fun _ K5 => ?_
 refine ent_o rfl (ok_lss rfl rfl) ?_
 refine enk K5 ?_
 refine ent_seq fun _ K6 => ?_
 refine ent_condD rfl (fun h14 => ?_) (fun h14 => ?_)
 ·have hmi := ix_map_inF f l h0 (show i < l.length by omega)
  refine esp K6 ?_
  refine ent_seq fun _ K7 => ?_
  refine ent_block ?_
  refine esr rfl fun _ K8 => ?_
  refine ent_o rfl (ok_index 0 sl22 rfl rfl (by omega) (by omega)) ?_
  refine ent_o rfl (ok_load ti3 rfl) ?_
  refine emm rfl ?_
  refine enk K8 ?_
  refine esr rfl fun _ K9 => ?_
  refine ent_o rfl (ok_call (Is_ok f (ix 0 l i)) rfl) ?_
  refine enk K9 ?_
  refine ent_condD rfl (fun h20 => ?_) (fun h20 => ?_)
  ·refine ent_region ?_
   refine emm rfl ?_
   refine ent_o rfl (ok_indexV sl22 rfl rfl (by omega) (by omega)) ?_
   refine ent_storeV (k := 0) (z := ix 0 l i) ti3 rfl rfl rfl (elem_one (one_int _)) (by omega) (by omega) ?_
   refine enk K7 ?_
   refine ent_region ?_
   refine ent_o rfl (ok_add rfl rfl (by omega) (by omega)) ?_
   refine emm rfl ?_
   refine ent_nil ?_
   refine ent_again (s := (i)) (i + 1) ⟨(by omega), ‹_›⟩ (by omega) (ent_rep ⟨rfl, rfl, rfl, rfl, rfl, trivial⟩ (own_cons (own_vec (show mixL (l.map (inF f)) (List.replicate l.length 0) (i + 1) = List.set (mixL (l.map (inF f)) (List.replicate l.length 0) i) (i).toNat (ix 0 l i) by exact (mixL_set _ _ h0 (by simp; omega) (by simp) (by rw [hmi]; unfold inF; rw [if_pos h20])).symm)) (rfl)))
  refine esp K7 ?_
  refine ent_region ?_
  refine ent_o rfl (ok_add rfl rfl (by omega) (by omega)) ?_
  refine emm rfl ?_
  refine ent_nil ?_
  refine ent_again (s := (i)) (i + 1) ⟨(by omega), ‹_›⟩ (by omega) (ent_rep ⟨rfl, rfl, rfl, rfl, rfl, trivial⟩ (own_cons (own_vec (show mixL (l.map (inF f)) (List.replicate l.length 0) (i + 1) = mixL (l.map (inF f)) (List.replicate l.length 0) i by exact (mixL_skip _ _ h0 (by simp; omega) (by simp) (by rw [ix_replicate0, hmi]; unfold inF; rw [if_neg h20])).symm)) (rfl)))
 have hma : mixL (l.map (inF f)) (List.replicate l.length 0) i = l.map (inF f) := mixL_all _ _ (by simp; omega) (by simp; omega)
 refine ent_exit ?_
 refine ent_k K3 ?_
 refine ent_seq fun _ K10 => ?_
 refine ent_give 0 5 rfl (cv_vec (k := 0) (off_erase rfl) (by simp_all) rfl) ?_
 refine ent_region ?_
 refine emm rfl ?_
 refine ent_o rfl (ok_call (trim_ok (mixL (l.map (inF f)) (List.replicate l.length 0) i)) rfl) ?_
 refine emm rfl ?_
 refine enk K10 ?_
 refine ent_ret ?_
 exact retR1 (.inr rfl) results97 (resr_tmp (res_cv rfl (cv_sl sub_x (by rw [hma]))))

theorem Exp_ok (q k m : Int) (hq : 2 ≤ q) (hq2 : q ≤ 65536) (hk : 0 ≤ k) (hk2 : k ≤ 9223372036854775807) (hm : 1 ≤ m) (hm2 : m ≤ 1000000) : Ctr Try.prog 98 [aInt q, aInt k, aInt m] (aTup [aInt (expF q k m), aInt (expE q k m)]) := by
 refine ctr_of Try.call98 func98 rfl rfl ?_
 intro w O
 refine esk rfl ?_
 refine ent_seq fun _ K2 => ?_
 refine ent_seq fun _ K3 => ?_
 refine ent_cut (⟨[(0, aInt q), (1, aInt k), (2, aInt m), (18, aBool (decide (((q < 0) ∨ (k < 0)) ∨ (m < 0))))], []⟩) ?_ ?_
 ·refine ent_region ?_
  refine emm rfl ?_
  refine ent_o rfl (ok_lss rfl rfl) ?_
  refine emm rfl ?_
  refine ent_guardXDf rfl rfl rfl rfl (fun hg11 => ?_) (fun hg11 => ?_)
  ·refine emm rfl ?_
   refine ent_guardXT rfl rfl rfl rfl (decide_eq_false hg11) ?_
   refine ent_o rfl (ok_lss rfl rfl) ?_
   refine ent_o rfl (ok_pickF rfl (decide_eq_false hg11) rfl) ?_
   refine emm rfl ?_
   refine ent_guardXDf rfl rfl rfl rfl (fun hg15 => ?_) (fun hg15 => ?_)
   ·refine emm rfl ?_
    refine ent_guardXT rfl rfl rfl rfl (decide_eq_false hg15) ?_
    refine ent_o rfl (ok_lss rfl rfl) ?_
    refine ent_o rfl (ok_pickF rfl (decide_eq_false hg15) rfl) ?_
    refine ent_nil ?_
    exact ent_rep ⟨rfl, rfl, rfl, slot_bool (dq_Q ((or_iff_right (fun h => h.elim hg11 hg15)).trans Iff.rfl)), trivial⟩ rfl
   refine ent_guardXF rfl rfl rfl rfl (decide_eq_true hg15) ?_
   refine ent_o rfl (ok_pickT rfl (decide_eq_true hg15) rfl) ?_
   refine ent_nil ?_
   exact ent_rep ⟨rfl, rfl, rfl, slot_bool (dq_T rfl (Or.inl (Or.inr hg15))), trivial⟩ rfl
  refine ent_guardXF rfl rfl rfl rfl (decide_eq_true hg11) ?_
  refine ent_o rfl (ok_pickT rfl (decide_eq_true hg11) rfl) ?_
  refine emm rfl ?_
  refine ent_guardXF rfl rfl rfl rfl rfl ?_
  refine ent_guardXF rfl rfl rfl rfl rfl ?_
  refine ent_o rfl (ok_pickT rfl rfl rfl) ?_
  refine ent_nil ?_
  exact ent_rep ⟨rfl, rfl, rfl, slot_bool (dq_T rfl (Or.inl (Or.inl hg11))), trivial⟩ rfl
 refine ent_k K3 ?_
 refine ent_condD rfl (fun h18 => ?_) (fun h18 => ?_)
 ·omega
 refine esp K2 ?_
 refine ent_seq fun _ K4 => ?_
 refine ent_seq fun _ K5 => ?_
 refine ent_cut (⟨[(0, aInt q), (1, aInt k), (2, aInt m), (24, aBool (decide ((q = 0) ∧ (0 < k))))], []⟩) ?_ ?_
 ·refine ent_region ?_
  refine emm rfl ?_
  refine ent_o rfl (ok_eql rfl rfl) ?_
  refine emm rfl ?_
  refine ent_guardXDt rfl rfl rfl rfl (fun hg21 => ?_) (fun hg21 => ?_)
  ·refine emm rfl ?_
   refine ent_guardXT rfl rfl rfl rfl (decide_eq_true hg21) ?_
   refine ent_o rfl (ok_gtr rfl rfl) ?_
   refine ent_o rfl (ok_pickT rfl (decide_eq_true hg21) rfl) ?_
   refine ent_nil ?_
   exact ent_rep ⟨rfl, rfl, rfl, slot_bool (dq_Q ((and_iff_right hg21).trans Iff.rfl)), trivial⟩ rfl
  refine ent_guardXF rfl rfl rfl rfl (decide_eq_false hg21) ?_
  refine ent_o rfl (ok_pickF rfl (decide_eq_false hg21) rfl) ?_
  refine ent_nil ?_
  exact ent_rep ⟨rfl, rfl, rfl, slot_bool (dq_F rfl (fun h => hg21 h.1)), trivial⟩ rfl
 refine ent_k K5 ?_
 refine ent_condD rfl (fun h24 => ?_) (fun h24 => ?_)
 ·omega
 refine esp K4 ?_
 refine ent_seq fun _ K6 => ?_
 refine esr rfl fun _ K7 => ?_
 refine ent_o rfl (ok_eql rfl rfl) ?_
 refine enk K7 ?_
 refine ent_condD rfl (fun h26 => ?_) (fun h26 => ?_)
 ·omega
 refine esp K6 ?_
 refine esk rfl ?_
 refine ent_seq fun _ K9 => ?_
 refine ent_block ?_
 refine ent_loop (fun (j : Int) => (⟨[(0, aInt q), (1, aInt (k - j)), (2, aInt m), (8, aInt (q ^ j.toNat))], []⟩ : St)) (fun (j : Int) => (0 ≤ j) ∧ (j ≤ k) ∧ (q ^ j.toNat ≤ m)) (fun (j : Int) => (k - j).toNat) 0 ⟨(by omega), ‹_›, (by simpa using hm)⟩ (ent_rep ⟨rfl, slot_av (av_int (show k = k - (0 : Int) by omega)), rfl, slot_av (av_int (show 1 = q ^ (0 : Int).toNat by simp)), trivial⟩ rfl) ?_
 rintro j ⟨h0, h1, h2⟩
 show Ent _ ⟨_, []⟩ _
 refine ent_seq fun _ K10 => ?_
 refine ent_seq fun _ K11 => ?_
 refine ent_cut (⟨[(0, aInt q), (1, aInt (k - j)), (2, aInt m), (8, aInt (q ^ j.toNat)), (32, aBool (decide ((0 < (k - j)) ∧ (1 < q))))], []⟩) ?_ ?_
 ·refine ent_region ?_
  refine emm rfl ?_
  refine ent_o rfl (ok_gtr rfl rfl) ?_
  refine emm rfl ?_
  refine ent_guardXDt rfl rfl rfl rfl (fun hg29 => ?_) (fun hg29 => ?_)
  ·refine emm rfl ?_
   refine ent_guardXT rfl rfl rfl rfl (decide_eq_true hg29) ?_
   refine ent_o rfl (ok_gtr rfl rfl) ?_
   refine ent_o rfl (ok_pickT rfl (decide_eq_true hg29) rfl) ?_
   refine ent_nil ?_
   exact ent_rep ⟨rfl, rfl, rfl, rfl, slot_bool (dq_Q ((and_iff_right hg29).trans Iff.rfl)), trivial⟩ rfl
  refine ent_guardXF rfl rfl rfl rfl (decide_eq_false hg29) ?_
  refine ent_o rfl (ok_pickF rfl (decide_eq_false hg29) rfl) ?_
  refine ent_nil ?_
  exact ent_rep ⟨rfl, rfl, rfl, rfl, slot_bool (dq_F rfl (fun h => hg29 h.1)), trivial⟩ rfl
 refine ent_k K11 ?_
 refine ent_condD rfl (fun h32 => ?_) (fun h32 => ?_)
 ·have hs := pow_succ_toNat q j h0
  have hp := pow_pos_of q hq j.toNat
  have hpk := pow_mono_of q hq (show (j + 1).toNat ≤ k.toNat by omega)
  have hmm : 0 ≤ q ^ j.toNat * q ∧ q ^ j.toNat * q ≤ 1000000 * 65536 := ⟨Int.mul_nonneg (by omega) (by omega), Int.mul_le_mul (by omega) hq2 (by omega) (by omega)⟩
  refine esp K10 ?_
  refine ent_seq fun _ K12 => ?_
  refine ent_block ?_
  refine ent_seq fun _ K13 => ?_
  refine esr rfl fun _ K14 => ?_
  refine ent_o rfl (ok_quo rfl rfl (by omega) (by omega) (by omega)) ?_
  refine ent_o rfl (ok_gtr rfl rfl) ?_
  refine enk K14 ?_
  refine ent_condD rfl (fun h39 => ?_) (fun h39 => ?_)
  ·have hlt : m < q ^ j.toNat * q := (Int.ediv_lt_iff_lt_mul (by omega)).1 h39
   refine esk rfl ?_
   refine ent_ret ?_
   exact retR2 (.inr rfl) results98 (resr_tmp (res_cv rfl (cv_int (by unfold expF; rw [if_neg (by omega)])))) (resr_tmp (res_cv rfl (cv_int (by unfold expE; rw [if_neg (by omega)]))))
  have hle : q ^ j.toNat * q ≤ m := (Int.le_ediv_iff_mul_le (by omega)).1 (by omega)
  refine esp K13 ?_
  refine ent_region ?_
  refine emm rfl ?_
  refine ent_o rfl (ok_mul rfl rfl (by omega) (by omega)) ?_
  refine emm rfl ?_
  refine enk K12 ?_
  refine ent_region ?_
  refine emm rfl ?_
  refine ent_o rfl (ok_sub rfl rfl (by omega) (by omega)) ?_
  refine emm rfl ?_
  refine ent_nil ?_
  refine ent_again (s := (j)) (j + 1) ⟨(by omega), (by omega), (by rw [hs]; exact hle)⟩ (by omega) (ent_rep ⟨rfl, slot_av (av_int (show (k - j) - 1 = k - (j + 1) by omega)), rfl, slot_av (av_int (show (q ^ j.toNat) * q = q ^ (j + 1).toNat by rw [hs])), trivial⟩ rfl)
 refine ent_exit ?_
 refine ent_k K9 ?_
 refine esk rfl ?_
 refine ent_ret ?_
 exact retR2 (.inr rfl) results98 (resr_tmp (res_cv rfl (cv_int (by unfold expF; rw [show k = j by omega, if_pos h2])))) (resr_tmp (res_cv rfl (cv_int (by unfold expE; rw [show k = j by omega, if_pos h2]))))

theorem Order_ok (f : Fld)  : Ctr Try.prog 95 [aGF f] (aInt f.q) := by
 refine ctr_of Try.call95 func95 rfl rfl ?_
 intro w O
 refine ent_lenP 0 4 rfl rfl (fun hlen0_4 => ?_)
 refine ent_lenP 0 5 rfl rfl (fun hlen0_5 => ?_)
 refine esk rfl ?_
 refine esr rfl fun _ K2 => ?_
 refine ent_o rfl (ok_nilCheck rfl) ?_
 refine ent_o rfl (ok_fieldAddr1 runUnderlying143 rfl sizeOf3 rfl rfl) ?_
 refine ent_o rfl (ok_load ti3 rfl) ?_
 refine emm rfl ?_
 refine enk K2 ?_
 refine ent_ret ?_
 exact retR1 (.inr rfl) results95 (resr_tmp (res_cv rfl (cv_int rfl)))

theorem rEntries_ok (f : Fld) (l : List Int)  : Ctr Try.prog 60 [aFld f, aSl 1 false aInt l] (aInt (entErr f l)) := by
 refine ctr_of Try.call60 func60 rfl rfl ?_
 intro w O
 refine ent_lenC 0 2 rfl rfl (fun hlen0_2 => ?_)
 refine ent_len 1 rfl (fun hlen1 => ?_)
 refine esr rfl fun _ K1 => ?_
 refine ent_boxS rfl rfl (AllOne.mem ⟨(one_int _), (one_int _), one_sl, trivial⟩) (fun b2_1 => ?_)
 refine emm rfl ?_
 refine enk K1 ?_
 refine ent_seq fun _ K2 => ?_
 refine esk rfl ?_
 refine ent_block ?_
 refine ent_loop (fun (i : Int) => (⟨[(1, aSl 1 false aInt l), (2, aEx (.pointer (some ⟨b2_1, 0, none⟩))), (5, aInt i)], [oBox b2_1 24 [aInt f.P, aInt f.M, aSl 1 false aInt f.mod]]⟩ : St)) (fun (i : Int) => (0 ≤ i) ∧ (i ≤ l.length) ∧ (¬ outF f (l.take i.toNat))) (fun (i : Int) => (l.length - i).toNat) 0 ⟨(by omega), (by omega), (by simp [outF])⟩ (ent_rep ⟨rfl, rfl, slot_av (av_int (show 0 = (0 : Int) by rfl)), trivial⟩ rfl) ?_
 rintro i ⟨h0, h1, hn⟩
 show Ent _ ⟨_, [_]⟩ _
 refine ent_seq fun _ K4 => ?_
 refine esr rfl fun _ K5 => ?_
 refine ent_o rfl (ok_len rfl runUnderlying22 rfl) ?_
 refine ent_o rfl (ok_lss rfl rfl) ?_
 refine enk K5 ?_
 refine ent_condD rfl (fun h9 => ?_) (fun h9 => ?_)
 ·refine esp K4 ?_
  refine ent_seq fun _ K6 => ?_
  refine ent_block ?_
  refine ent_seq fun _ K7 => ?_
  refine ent_draw 7 mixed (by kernel_rfl) (by kernel_rfl) (by kernel_rfl) ?_
  refine dw_o rfl (ok_loadBS (k := 0) ti24 rfl rfl rfl) ?_
  refine dw_o rfl (ok_move rfl) ?_
  refine dw_o rfl (ok_move rfl) ?_
  refine dw_o rfl (ok_index 0 sl22 rfl rfl (by omega) (by omega)) ?_
  refine dw_o rfl (ok_load ti3 rfl) ?_
  refine dw_o rfl (ok_call (rIs_ok f (ix 0 l i)) rfl) ?_
  refine dw_o rfl (ok_notD rfl) ?_
  refine dw_nil ?_
  refine enk K7 ?_
  refine ent_condD rfl (fun h18 => ?_) (fun h18 => ?_)
  ·refine esk rfl ?_
   refine ent_ret ?_
   exact retR1 (.inr rfl) results60 (resr_tmp (res_cv rfl (cv_int (by unfold entErr; rw [if_pos (outF_at h0 h9 h18)]))))
  refine esp K6 ?_
  refine ent_region ?_
  refine emm rfl ?_
  refine ent_o rfl (ok_add rfl rfl (by omega) (by omega)) ?_
  refine emm rfl ?_
  refine ent_nil ?_
  refine ent_again (s := (i)) (i + 1) ⟨(by omega), ‹_›, (outF_succ h0 h9 hn (Classical.not_not.1 h18))⟩ (by omega) (ent_rep ⟨rfl, rfl, rfl, trivial⟩ rfl)
 refine ent_exit ?_
 refine ent_k K2 ?_
 refine esk rfl ?_
 refine ent_ret ?_
 exact retR1 (.inr rfl) results60 (resr_tmp (res_cv rfl (cv_int (by unfold entErr; rw [if_neg (by rw [List.take_of_length_le (by omega)] at hn; exact hn)]))))
end Go.Proofs.Ytfjhbdfgbpcchaa

