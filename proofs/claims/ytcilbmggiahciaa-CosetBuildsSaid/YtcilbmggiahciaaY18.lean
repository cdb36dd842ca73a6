/-
  Walks of functions of the program and the reference.
-/
import Derived.Test.YtcilbmggiahciaaY15
open Go Go.Cw
namespace Go.Proofs.Ytcilbmggiahciaa
open Try
set_option maxRecDepth 100000
set_option linter.unusedVariables false
set_option linter.unusedSimpArgs false
theorem rEntries_ok (f : Fld) (l : List Int)  : Ctr Try.prog 46 [aFld f, aSl 1 false aInt l] (aInt (entErr f l)) := by
 refine ctr_of Try.call46 func46 rfl rfl ?_
 intro w O
 refine ent_lenC 0 2 rfl rfl (fun hlen0_2 => ?_)
 refine ent_len 1 rfl (fun hlen1 => ?_)
 refine esr rfl fun _ K1 => ?_
 refine ent_boxS rfl rfl (AllOne.mem ⟨(one_int _), (one_int _), one_sl, trivial⟩) (fun b2_1 => ?_)
 refine emm rfl ?_
 refine enk K1 ?_
 refine ent_seq fun _ K2 => ?_
 refine esk rfl ?_
 refine ent_block ?_
 refine ent_loop (fun (i : Int) => (⟨[(1, aSl 1 false aInt l), (2, aEx (.pointer (some ⟨b2_1, 0, none⟩))), (5, aInt i)], [oBox b2_1 24 [aInt f.P, aInt f.M, aSl 1 false aInt f.mod]]⟩ : St)) (fun (i : Int) => (0 ≤ i) ∧ (i ≤ l.length) ∧ (¬ outF f (l.take i.toNat))) (fun (i : Int) => (l.length - i).toNat) 0 ⟨(by omega), (by omega), (by simp [outF])⟩ (ent_rep ⟨rfl, rfl, slot_av (av_int (show 0 = (0 : Int) by rfl)), trivial⟩ rfl) ?_
 rintro i ⟨h0, h1, hn⟩
 show Ent _ ⟨_, [_]⟩ _
 refine ent_seq fun _ K4 => ?_
 refine esr rfl fun _ K5 => ?_
 refine ent_o rfl (ok_len rfl runUnderlying22 rfl) ?_
 refine ent_o rfl (ok_lss rfl rfl) ?_
 refine enk K5 ?_
 refine ent_condD rfl (fun h9 => ?_) (fun h9 => ?_)
 ·refine esp K4 ?_
  refine ent_seq fun _ K6 => ?_
  refine ent_block ?_
  refine ent_seq fun _ K7 => ?_
  refine ent_draw 7 mixed (by kernel_rfl) (by kernel_rfl) (by kernel_rfl) ?_
  refine dw_o rfl (ok_loadBS (k := 0) ti24 rfl rfl rfl) ?_
  refine dw_o rfl (ok_move rfl) ?_
  refine dw_o rfl (ok_move rfl) ?_
  refine dw_o rfl (ok_index 0 sl22 rfl rfl (by omega) (by omega)) ?_
  refine dw_o rfl (ok_load ti3 rfl) ?_
  refine dw_o rfl (ok_call (rIs_ok f (ix 0 l i)) rfl) ?_
  refine dw_o rfl (ok_notD rfl) ?_
  refine dw_nil ?_
  refine enk K7 ?_
  refine ent_condD rfl (fun h18 => ?_) (fun h18 => ?_)
  ·refine esk rfl ?_
   refine ent_ret ?_
   exact retR1 (.inr rfl) results46 (resr_tmp (res_cv rfl (cv_int (by unfold entErr; rw [if_pos (outF_at h0 h9 h18)]))))
  refine esp K6 ?_
  refine ent_region ?_
  refine emm rfl ?_
  refine ent_o rfl (ok_add rfl rfl (by omega) (by omega)) ?_
  refine emm rfl ?_
  refine ent_nil ?_
  refine ent_again (s := (i)) (i + 1) ⟨(by omega), ‹_›, (outF_succ h0 h9 hn (Classical.not_not.1 h18))⟩ (by omega) (ent_rep ⟨rfl, rfl, rfl, trivial⟩ rfl)
 refine ent_exit ?_
 refine ent_k K2 ?_
 refine esk rfl ?_
 refine ent_ret ?_
 exact retR1 (.inr rfl) results46 (resr_tmp (res_cv rfl (cv_int (by unfold entErr; rw [if_neg (by rw [List.take_of_length_le (by omega)] at hn; exact hn)]))))

theorem rMCheck_ok (f : Fld) (m : Mat)  : Ctr Try.prog 65 [aFld f, aMat m] (aInt (mErr f m)) := by
 refine ctr_of Try.call65 func65 rfl rfl ?_
 intro w O
 refine ent_lenC 0 2 rfl rfl (fun hlen0_2 => ?_)
 refine ent_lenC 1 1 rfl rfl (fun hlen1_1 => ?_)
 refine esr rfl fun _ K1 => ?_
 refine ent_boxS rfl rfl (AllOne.mem ⟨(one_int _), (one_int _), one_sl, trivial⟩) (fun b2_1 => ?_)
 refine ent_boxS rfl rfl (AllOne.mem ⟨(one_int _), one_sl, trivial⟩) (fun b3_2 => ?_)
 refine emm rfl ?_
 refine enk K1 ?_
 refine esr rfl fun _ K2 => ?_
 refine ent_o rfl (ok_loadBS (k := 1) ti24 rfl rfl rfl) ?_
 refine ent_o rfl (ok_call (rCheck_ok f) rfl) ?_
 refine emm rfl ?_
 refine enk K2 ?_
 refine ent_seq fun _ K3 => ?_
 refine esr rfl fun _ K4 => ?_
 refine ent_o rfl (ok_neq rfl rfl) ?_
 refine enk K4 ?_
 refine ent_condD rfl (fun h11 => ?_) (fun h11 => ?_)
 ·have hme : mErr f m = fErr f := by unfold mErr fErr at *; split <;> simp_all
  refine esk rfl ?_
  refine ent_ret ?_
  exact retR1 (.inr rfl) results65 (resr_tmp (res_cv rfl (cv_int (by exact hme.symm))))
 have hF : FOk f := by unfold fErr at h11; by_cases h : FOk f; exact h; rw [if_neg h] at h11; exact absurd (by decide) h11
 have hme := mErr_ok (m := m) hF
 refine esp K3 ?_
 refine ent_seq fun _ K6 => ?_
 refine ent_seq fun _ K7 => ?_
 refine ent_cut (⟨[(2, aEx (.pointer (some ⟨b2_1, 0, none⟩))), (3, aEx (.pointer (some ⟨b3_2, 0, none⟩))), (26, aBool (decide (((m.cols < 0) ∨ (256 < m.cols)) ∨ (256 < (↑m.rows.length : Int)))))], [oBox b3_2 76 [aInt m.cols, aSl 1 false aInts m.rows], oBox b2_1 24 [aInt f.P, aInt f.M, aSl 1 false aInt f.mod]]⟩) ?_ ?_
 ·refine ent_region ?_
  refine ent_o rfl (ok_fieldAddrEx runUnderlying76 rfl sizeOf3 (by decide) rfl) ?_
  refine ent_o rfl (ok_loadB (k := 0) isAgg3 rfl rfl rfl) ?_
  refine ent_o rfl (ok_lss rfl rfl) ?_
  refine emm rfl ?_
  refine ent_guardXDf rfl rfl rfl rfl (fun hg16 => ?_) (fun hg16 => ?_)
  ·refine ent_o rfl (ok_fieldAddrEx runUnderlying76 rfl sizeOf3 (by decide) rfl) ?_
   refine ent_guardXT rfl rfl rfl rfl (decide_eq_false hg16) ?_
   refine ent_o rfl (ok_loadB (k := 0) isAgg3 rfl rfl rfl) ?_
   refine ent_guardXT rfl rfl rfl rfl (decide_eq_false hg16) ?_
   refine ent_o rfl (ok_gtr rfl rfl) ?_
   refine ent_o rfl (ok_pickF rfl (decide_eq_false hg16) rfl) ?_
   refine emm rfl ?_
   refine ent_guardXDf rfl rfl rfl rfl (fun hg21 => ?_) (fun hg21 => ?_)
   ·refine ent_o rfl (ok_fieldAddrEx runUnderlying76 rfl sizeOf25 (by decide) rfl) ?_
    refine ent_guardXT rfl rfl rfl rfl (decide_eq_false hg21) ?_
    refine ent_o rfl (ok_loadB (k := 0) isAgg25 rfl rfl rfl) ?_
    refine ent_guardXT rfl rfl rfl rfl (decide_eq_false hg21) ?_
    refine ent_o rfl (ok_len rfl runUnderlying25 rfl) ?_
    refine ent_guardXT rfl rfl rfl rfl (decide_eq_false hg21) ?_
    refine ent_o rfl (ok_gtr rfl rfl) ?_
    refine ent_o rfl (ok_pickF rfl (decide_eq_false hg21) rfl) ?_
    refine ent_nil ?_
    exact ent_rep ⟨rfl, rfl, slot_bool (dq_Q ((or_iff_right (fun h => h.elim hg16 hg21)).trans Iff.rfl)), trivial⟩ rfl
   refine ent_guardXF rfl rfl rfl rfl (decide_eq_true hg21) ?_
   refine ent_guardXF rfl rfl rfl rfl (decide_eq_true hg21) ?_
   refine ent_guardXF rfl rfl rfl rfl (decide_eq_true hg21) ?_
   refine ent_o rfl (ok_pickT rfl (decide_eq_true hg21) rfl) ?_
   refine ent_nil ?_
   exact ent_rep ⟨rfl, rfl, slot_bool (dq_T rfl (Or.inl (Or.inr hg21))), trivial⟩ rfl
  refine ent_guardXF rfl rfl rfl rfl (decide_eq_true hg16) ?_
  refine ent_guardXF rfl rfl rfl rfl (decide_eq_true hg16) ?_
  refine ent_o rfl (ok_pickT rfl (decide_eq_true hg16) rfl) ?_
  refine emm rfl ?_
  refine ent_guardXF rfl rfl rfl rfl rfl ?_
  refine ent_guardXF rfl rfl rfl rfl rfl ?_
  refine ent_guardXF rfl rfl rfl rfl rfl ?_
  refine ent_guardXF rfl rfl rfl rfl rfl ?_
  refine ent_o rfl (ok_pickT rfl rfl rfl) ?_
  refine ent_nil ?_
  exact ent_rep ⟨rfl, rfl, slot_bool (dq_T rfl (Or.inl (Or.inl hg16))), trivial⟩ rfl
 refine ent_k K7 ?_
 refine ent_condD rfl (fun h26 => ?_) (fun h26 => ?_)
 ·refine esk rfl ?_
  refine ent_ret ?_
  exact retR1 (.inr rfl) results65 (resr_tmp (res_cv rfl (cv_int (by rw [hme]; exact (matErr_shape h26).symm))))
 refine esp K6 ?_
 refine ent_seq fun _ K9 => ?_
 refine esk rfl ?_
 refine ent_block ?_
 refine ent_loop (fun (i : Int) => (⟨[(2, aEx (.pointer (some ⟨b2_1, 0, none⟩))), (3, aEx (.pointer (some ⟨b3_2, 0, none⟩))), (6, aInt i)], [oBox b3_2 76 [aInt m.cols, aSl 1 false aInts m.rows], oBox b2_1 24 [aInt f.P, aInt f.M, aSl 1 false aInt f.mod]]⟩ : St)) (fun (i : Int) => (0 ≤ i) ∧ (i ≤ m.rows.length) ∧ (∀ l ∈ m.rows.take i.toNat, (l.length : Int) = m.cols)) (fun (i : Int) => (m.rows.length - i).toNat) 0 ⟨(by omega), (by omega), (by simp)⟩ (ent_rep ⟨rfl, rfl, slot_av (av_int (show 0 = (0 : Int) by rfl)), trivial⟩ rfl) ?_
 rintro i ⟨h0, h1, hn⟩
 show Ent _ ⟨_, [_, _]⟩ _
 refine ent_seq fun _ K11 => ?_
 refine esr rfl fun _ K12 => ?_
 refine ent_o rfl (ok_fieldAddrEx runUnderlying76 rfl sizeOf25 (by decide) rfl) ?_
 refine ent_o rfl (ok_loadB (k := 0) isAgg25 rfl rfl rfl) ?_
 refine ent_o rfl (ok_len rfl runUnderlying25 rfl) ?_
 refine ent_o rfl (ok_lss rfl rfl) ?_
 refine enk K12 ?_
 refine ent_condD rfl (fun h31 => ?_) (fun h31 => ?_)
 ·refine esp K11 ?_
  refine ent_seq fun _ K13 => ?_
  refine ent_block ?_
  refine ent_seq fun _ K14 => ?_
  refine ent_draw 9 mixed (by kernel_rfl) (by kernel_rfl) (by kernel_rfl) ?_
  refine dw_o rfl (ok_fieldAddrEx runUnderlying76 rfl sizeOf25 (by decide) rfl) ?_
  refine dw_o rfl (ok_loadB (k := 0) isAgg25 rfl rfl rfl) ?_
  refine dw_o rfl (ok_move rfl) ?_
  refine dw_o rfl (ok_index [] sl25 rfl rfl (by omega) (by omega)) ?_
  refine dw_o rfl (ok_load ti22 rfl) ?_
  refine dw_o rfl (ok_len rfl runUnderlying22 rfl) ?_
  refine dw_o rfl (ok_fieldAddrEx runUnderlying76 rfl sizeOf3 (by decide) rfl) ?_
  refine dw_o rfl (ok_loadB (k := 0) isAgg3 rfl rfl rfl) ?_
  refine dw_o rfl (ok_neq rfl rfl) ?_
  refine dw_nil ?_
  refine enk K14 ?_
  refine ent_condD rfl (fun h42 => ?_) (fun h42 => ?_)
  ·refine esk rfl ?_
   refine ent_ret ?_
   exact retR1 (.inr rfl) results65 (resr_tmp (res_cv rfl (cv_int (by rw [hme]; exact (matErr_rag (ragged_at h0 h31 h42)).symm))))
  refine esp K13 ?_
  refine ent_region ?_
  refine emm rfl ?_
  refine ent_o rfl (ok_add rfl rfl (by omega) (by omega)) ?_
  refine emm rfl ?_
  refine ent_nil ?_
  refine ent_again (s := (i)) (i + 1) ⟨(by omega), ‹_›, (not_take_succ [] h0 h31 hn (Classical.not_not.1 h42))⟩ (by omega) (ent_rep ⟨rfl, rfl, rfl, trivial⟩ rfl)
 refine ent_exit ?_
 refine ent_k K9 ?_
 refine ent_seq fun _ K16 => ?_
 refine esk rfl ?_
 refine ent_block ?_
 refine ent_loop (fun (j : Int) => (⟨[(2, aEx (.pointer (some ⟨b2_1, 0, none⟩))), (3, aEx (.pointer (some ⟨b3_2, 0, none⟩))), (7, aInt j)], [oBox b3_2 76 [aInt m.cols, aSl 1 false aInts m.rows], oBox b2_1 24 [aInt f.P, aInt f.M, aSl 1 false aInt f.mod]]⟩ : St)) (fun (j : Int) => (0 ≤ j) ∧ (j ≤ m.rows.length) ∧ (∀ l ∈ m.rows.take j.toNat, entErr f l = 0)) (fun (j : Int) => (m.rows.length - j).toNat) 0 ⟨(by omega), (by omega), (by simp)⟩ (ent_rep ⟨rfl, rfl, slot_av (av_int (show 0 = (0 : Int) by rfl)), trivial⟩ rfl) ?_
 rintro j ⟨k0, k1, kn⟩
 show Ent _ ⟨_, [_, _]⟩ _
 refine ent_seq fun _ K18 => ?_
 refine esr rfl fun _ K19 => ?_
 refine ent_o rfl (ok_fieldAddrEx runUnderlying76 rfl sizeOf25 (by decide) rfl) ?_
 refine ent_o rfl (ok_loadB (k := 0) isAgg25 rfl rfl rfl) ?_
 refine ent_o rfl (ok_len rfl runUnderlying25 rfl) ?_
 refine ent_o rfl (ok_lss rfl rfl) ?_
 refine enk K19 ?_
 refine ent_condD rfl (fun h47 => ?_) (fun h47 => ?_)
 ·refine esp K18 ?_
  refine ent_seq fun _ K20 => ?_
  refine ent_block ?_
  refine ent_seq fun _ K21 => ?_
  refine ent_draw 8 mixed (by kernel_rfl) (by kernel_rfl) (by kernel_rfl) ?_
  refine dw_o rfl (ok_loadBS (k := 1) ti24 rfl rfl rfl) ?_
  refine dw_o rfl (ok_fieldAddrEx runUnderlying76 rfl sizeOf25 (by decide) rfl) ?_
  refine dw_o rfl (ok_loadB (k := 0) isAgg25 rfl rfl rfl) ?_
  refine dw_o rfl (ok_move rfl) ?_
  refine dw_o rfl (ok_index [] sl25 rfl rfl (by omega) (by omega)) ?_
  refine dw_o rfl (ok_load ti22 rfl) ?_
  refine dw_o rfl (ok_call (rEntries_ok f (ix [] m.rows j)) rfl) ?_
  refine dw_o rfl (ok_assign rfl) ?_
  refine dw_nil ?_
  refine enk K21 ?_
  refine esr rfl fun _ K22 => ?_
  refine ent_o rfl (ok_neq rfl rfl) ?_
  refine enk K22 ?_
  refine ent_condD rfl (fun h58 => ?_) (fun h58 => ?_)
  ·refine esk rfl ?_
   refine ent_ret ?_
   exact retR1 (.inr rfl) results65 (resr_tmp (res_cv rfl (cv_int (by rw [hme, entErr_two h58]; exact (matErr_row h26 (not_ragged (take_all (by omega) hn)) (badRow_at k0 h47 h58)).symm))))
  refine esp K20 ?_
  refine ent_region ?_
  refine emm rfl ?_
  refine ent_o rfl (ok_add rfl rfl (by omega) (by omega)) ?_
  refine emm rfl ?_
  refine ent_nil ?_
  refine ent_again (s := (j)) (j + 1) ⟨(by omega), ‹_›, (not_take_succ [] k0 h47 kn (Classical.not_not.1 h58))⟩ (by omega) (ent_rep ⟨rfl, rfl, rfl, trivial⟩ rfl)
 refine ent_exit ?_
 refine ent_k K16 ?_
 refine esk rfl ?_
 refine ent_ret ?_
 exact retR1 (.inr rfl) results65 (resr_tmp (res_cv rfl (cv_int (by rw [hme]; exact (matErr_zero.2 ⟨h26, not_ragged (take_all (by omega) hn), not_badRow (take_all (by omega) kn)⟩).symm))))

theorem rCopy_ok (X : List (List Int)) (hx : X.length ≤ 1000000) (hr : ∀ l ∈ X, l.length ≤ 1000000) : CtrN Try.prog 104 [aSl 1 false aInts X] 22 1 false aInts X := by
 refine ctrN_of Try.call104 func104 rfl rfl ?_
 intro w O
 refine ent_len 0 rfl (fun hlen0 => ?_)
 refine esk rfl ?_
 refine esk rfl ?_
 refine ent_seq fun _ K3 => ?_
 refine esk rfl ?_
 refine ent_block ?_
 refine ent_open 22 1 false aInts (fun _ => rfl) ?_
 refine ent_loop (fun (ss : Int × Option Nat × Nat) => match ss with | (i, rr2, cc2) => (⟨[(0, aSl 1 false aInts X), (3, aEx (vec rr2 ((X.take i.toNat).length) cc2)), (4, aInt i)], [oVec rr2 cc2 22 1 false aInts (X.take i.toNat)]⟩ : St)) (fun (ss : Int × Option Nat × Nat) => match ss with | (i, rr2, cc2) => (0 ≤ i) ∧ (i ≤ X.length)) (fun (ss : Int × Option Nat × Nat) => match ss with | (i, rr2, cc2) => (X.length - i).toNat) (0, none, 0) ⟨(by omega), (by omega)⟩ (ent_rep ⟨rfl, slot_av ((show aEx (vec none ([] : List _).length 0) = aEx (vec none ((X.take (0 : Int).toNat).length) 0) from av_vec (congrArg List.length (show X.take (0 : Int).toNat = [] by rfl).symm))), slot_av (av_int (show 0 = (0 : Int) by rfl)), trivial⟩ (own_cons (own_vec (show X.take (0 : Int).toNat = [] by rfl)) (rfl))) ?_
 rintro ⟨i, rr2, cc2⟩ ⟨h0, h1⟩
 show Ent _ ⟨_, [_]⟩ _
 refine ent_seq fun _ K5 => ?_
 refine esr rfl fun _ K6 => ?_
 refine ent_o rfl (ok_len rfl runUnderlying25 rfl) ?_
 refine ent_o rfl (ok_lss rfl rfl) ?_
 refine enk K6 ?_
 refine ent_condD rfl (fun h8 => ?_) (fun h8 => ?_)
 ·have hri := hr _ (ix_mem [] X h0 h8)
  refine esp K5 ?_
  refine ent_seq fun _ K7 => ?_
  refine ent_block ?_
  refine ent_region ?_
  refine emm rfl ?_
  refine ent_buildN aInt [] rfl vt22 (by decide) (rfl) rfl (fun b12_3 => ?_)
  refine emm rfl ?_
  refine ent_o rfl (ok_index [] sl25 rfl rfl (by omega) (by omega)) ?_
  refine ent_o rfl (ok_load ti22 rfl) ?_
  refine ent_appendS (k := 0) rfl vt22 rfl rfl rfl rfl (cv_id sub_refl) (by simp only [List.length_append, List.length_cons, List.length_nil]; omega) (by simp only [List.length_append, List.length_cons, List.length_nil]; omega) (fun r17_3 cr17_3 => ?_)
  refine ent_give 0 17 rfl (cv_vec (k := 0) (off_erase rfl) rfl rfl) ?_
  refine ent_appendL (k := 0) (enc := aInts) (y := [] ++ (ix [] X i)) rfl rfl vt25 rfl rfl rfl rfl ((elem_one one_sl)) (by simp; omega) (by simp; omega) (by decide) (fun b19_5 c19_5 => ?_)
  refine emm rfl ?_
  refine enk K7 ?_
  refine ent_region ?_
  refine emm rfl ?_
  refine ent_o rfl (ok_add rfl rfl (by omega) (by omega)) ?_
  refine emm rfl ?_
  refine ent_nil ?_
  refine ent_again (s := (i, rr2, cc2)) (i + 1, (some b19_5), c19_5) ⟨(by omega), ‹_›⟩ (by dsimp only; omega) (ent_rep ⟨rfl, slot_av (av_vec (congrArg List.length (show X.take (i + 1).toNat = (X.take i.toNat) ++ [[] ++ (ix [] X i)] by rw [take_succ_ix [] X h0 h8]; simp).symm)), rfl, trivial⟩ (own_cons (own_vec (show X.take (i + 1).toNat = (X.take i.toNat) ++ [[] ++ (ix [] X i)] by rw [take_succ_ix [] X h0 h8]; simp)) (rfl)))
 refine ent_exit ?_
 refine ent_k K3 ?_
 refine esk rfl ?_
 refine ent_ret ?_
 exact retN (k := 0) (.inr rfl) results104 rfl rfl rfl (by rw [List.take_of_length_le (by omega)])
end Go.Proofs.Ytcilbmggiahciaa

