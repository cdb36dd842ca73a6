/-
  Lists of nodes.
-/
import Derived.Test.YtaipghchkamajaaProg
import Derived.Test.YtaipghchkamajaaTab
import Derived.Test.YtaipghchkamajaaPlainG
open Go Go.Cw
namespace Go.Proofs.Ytaipghchkamajaa
set_option maxRecDepth 100000
set_option linter.unusedVariables false
set_option linter.unusedSimpArgs false
theorem Index_ok (l : List Int) (x : Int)  : Ctr Try.prog 119 [aSl 1 false aInt l, aInt x] (aInt (ixOf l x)) := by
  refine ctr_of Try.call119 Try.func119 rfl rfl ?_
  intro w O
  refine ent_len 0 rfl (fun hlen0 => ?_)
  refine ent_seq fun K1 hK1 => ?_
  refine ent_region ?_
  refine ent_o rfl (ok_assign rfl) ?_
  refine ent_nil ?_
  refine ent_k hK1 ?_
  refine ent_seq fun K2 hK2 => ?_
  refine ent_seq fun K3 hK3 => ?_
  refine ent_region ?_
  refine ent_o rfl (ok_move rfl) ?_
  refine ent_o rfl (ok_len rfl Try.runUnderlying29 rfl) ?_
  refine ent_o rfl (ok_move rfl) ?_
  refine ent_nil ?_
  refine ent_k hK3 ?_
  refine ent_block ?_
  refine ent_loop (fun (i : Int) => (⟨[(0, aSl 1 false aInt l), (1, aInt x), (7, aInt (↑l.length : Int)), (8, aInt i)], []⟩ : St)) (fun (i : Int) => (0 ≤ i) ∧ (i ≤ l.length) ∧ (x ∉ l.take i.toNat)) (fun (i : Int) => (l.length - i).toNat) 0 ⟨(by first | rfl | assumption | omega | (simp_all; done) | grind), (by first | rfl | assumption | omega | (simp_all; done) | grind), (by simp)⟩ (ent_rep ⟨rfl, rfl, rfl, slot_av (av_int (show 0 = (0 : Int) by first | rfl | assumption | omega | (simp_all; done) | grind)), trivial⟩ rfl) ?_
  rintro i ⟨h0, h1, hn⟩
  show Ent _ (⟨[(0, aSl 1 false aInt l), (1, aInt x), (7, aInt (↑l.length : Int)), (8, aInt i)], []⟩ : St) _
  refine ent_seq fun K4 hK4 => ?_
  refine ent_region ?_
  refine ent_o rfl (ok_lss rfl rfl) ?_
  refine ent_nil ?_
  refine ent_k hK4 ?_
  refine ent_seq fun K5 hK5 => ?_
  refine ent_condD rfl (fun h9 => ?_) (fun h9 => ?_)
  · refine ent_skip ?_
    refine ent_k hK5 ?_
    refine ent_seq fun K6 hK6 => ?_
    refine ent_block ?_
    refine ent_seq fun K7 hK7 => ?_
    refine ent_region ?_
    refine ent_o rfl (ok_move rfl) ?_
    refine ent_o rfl (ok_assign rfl) ?_
    refine ent_nil ?_
    refine ent_k hK7 ?_
    refine ent_seq fun K8 hK8 => ?_
    refine ent_region ?_
    refine ent_o rfl (ok_move rfl) ?_
    refine ent_o rfl (ok_move rfl) ?_
    refine ent_o rfl (ok_move rfl) ?_
    refine ent_o rfl (ok_index 0 sl29 rfl rfl (by omega) (by omega)) ?_
    refine ent_o rfl (ok_load ti3 rfl) ?_
    refine ent_o rfl (ok_eql rfl rfl) ?_
    refine ent_nil ?_
    refine ent_k hK8 ?_
    refine ent_condD rfl (fun h16 => ?_) (fun h16 => ?_)
    · refine ent_seq fun K9 hK9 => ?_
      refine ent_region ?_
      refine ent_o rfl (ok_move rfl) ?_
      refine ent_o rfl (ok_assign rfl) ?_
      refine ent_nil ?_
      refine ent_k hK9 ?_
      refine ent_ret ?_
      exact retR1 (.inr rfl) Try.results119 (resr_tmp (res_cv rfl (cv_int (by exact (ixOf_at l x h0 h9 h16.symm hn).symm))))
    · refine ent_skip ?_
      refine ent_k hK6 ?_
      refine ent_region ?_
      refine ent_o rfl (ok_add rfl rfl (by omega) (by omega)) ?_
      refine ent_o rfl (ok_move rfl) ?_
      refine ent_nil ?_
      refine ent_again (s := (i)) (i + 1) ⟨(by first | rfl | assumption | omega | (simp_all; done) | grind), (by first | rfl | assumption | omega | (simp_all; done) | grind), (by rw [take_succ_ix 0 l h0 h9, List.mem_append, not_or]; exact ⟨hn, by simpa [ix] using h16⟩)⟩ (by first | omega | (dsimp only; omega)) (ent_rep ⟨rfl, rfl, rfl, rfl, trivial⟩ rfl)
  · refine ent_exit ?_
    refine ent_k hK2 ?_
    refine ent_seq fun K10 hK10 => ?_
    refine ent_region ?_
    refine ent_o rfl (ok_assign rfl) ?_
    refine ent_nil ?_
    refine ent_k hK10 ?_
    refine ent_ret ?_
    exact retR1 (.inr rfl) Try.results119 (resr_tmp (res_cv rfl (cv_int (by exact (ixOf_none l x (by rw [List.take_of_length_le (by omega)] at hn; exact hn)).symm))))

theorem Contains_ok (l : List Int) (x : Int)  : Ctr Try.prog 91 [aSl 1 false aInt l, aInt x] (aBool (decide (x ∈ l))) := by
  refine ctr_of Try.call91 Try.func91 rfl rfl ?_
  intro w O
  refine ent_len 0 rfl (fun hlen0 => ?_)
  refine ent_seq fun K1 hK1 => ?_
  refine ent_region ?_
  refine ent_o rfl (ok_assign rfl) ?_
  refine ent_nil ?_
  refine ent_k hK1 ?_
  refine ent_seq fun K2 hK2 => ?_
  refine ent_region ?_
  refine ent_o rfl (ok_move rfl) ?_
  refine ent_o rfl (ok_move rfl) ?_
  refine ent_o rfl (ok_call (Index_ok l x) rfl) ?_
  refine ent_o rfl (ok_geq rfl rfl) ?_
  refine ent_o rfl (ok_assign rfl) ?_
  refine ent_nil ?_
  refine ent_k hK2 ?_
  refine ent_ret ?_
  exact retR1 (.inr rfl) Try.results91 (resr_tmp (res_cv rfl (cv_bool (by exact decide_eq_decide.2 (ixOf_pos l x)))))

theorem twice_ok (l : List Int)  : Ctr Try.prog 58 [aSl 1 false aInt l] (aBool (decide (¬ l.Nodup))) := by
  refine ctr_of Try.call58 Try.func58 rfl rfl ?_
  intro w O
  refine ent_len 0 rfl (fun hlen0 => ?_)
  refine ent_seq fun K1 hK1 => ?_
  refine ent_region ?_
  refine ent_o rfl (ok_assign rfl) ?_
  refine ent_nil ?_
  refine ent_k hK1 ?_
  refine ent_seq fun K2 hK2 => ?_
  refine ent_seq fun K3 hK3 => ?_
  refine ent_region ?_
  refine ent_o rfl (ok_move rfl) ?_
  refine ent_o rfl (ok_len rfl Try.runUnderlying29 rfl) ?_
  refine ent_o rfl (ok_move rfl) ?_
  refine ent_nil ?_
  refine ent_k hK3 ?_
  refine ent_block ?_
  refine ent_loop (fun (i : Int) => (⟨[(0, aSl 1 false aInt l), (5, aSl 1 false aInt l), (6, aInt (↑l.length : Int)), (7, aInt i)], []⟩ : St)) (fun (i : Int) => (0 ≤ i) ∧ (i ≤ l.length) ∧ ((l.take i.toNat).Nodup)) (fun (i : Int) => (l.length - i).toNat) 0 ⟨(by first | rfl | assumption | omega | (simp_all; done) | grind), (by first | rfl | assumption | omega | (simp_all; done) | grind), (by simp)⟩ (ent_rep ⟨rfl, rfl, rfl, slot_av (av_int (show 0 = (0 : Int) by first | rfl | assumption | omega | (simp_all; done) | grind)), trivial⟩ rfl) ?_
  rintro i ⟨h0, h1, hn⟩
  show Ent _ (⟨[(0, aSl 1 false aInt l), (5, aSl 1 false aInt l), (6, aInt (↑l.length : Int)), (7, aInt i)], []⟩ : St) _
  refine ent_seq fun K4 hK4 => ?_
  refine ent_region ?_
  refine ent_o rfl (ok_lss rfl rfl) ?_
  refine ent_nil ?_
  refine ent_k hK4 ?_
  refine ent_seq fun K5 hK5 => ?_
  refine ent_condD rfl (fun h8 => ?_) (fun h8 => ?_)
  · refine ent_skip ?_
    refine ent_k hK5 ?_
    refine ent_seq fun K6 hK6 => ?_
    refine ent_block ?_
    refine ent_seq fun K7 hK7 => ?_
    refine ent_region ?_
    refine ent_o rfl (ok_move rfl) ?_
    refine ent_o rfl (ok_index 0 sl29 rfl rfl (by omega) (by omega)) ?_
    refine ent_o rfl (ok_load ti3 rfl) ?_
    refine ent_o rfl (ok_assign rfl) ?_
    refine ent_o rfl (ok_assign rfl) ?_
    refine ent_nil ?_
    refine ent_k hK7 ?_
    refine ent_seq fun K8 hK8 => ?_
    refine ent_region ?_
    refine ent_o rfl (ok_move rfl) ?_
    refine ent_o rfl (ok_move rfl) ?_
    refine ent_o rfl (ok_sliceTo sl29 rfl rfl (by omega) (by omega)) ?_
    refine ent_o rfl (ok_move rfl) ?_
    refine ent_o rfl (ok_call (Contains_ok (List.take (i).toNat l) (ix 0 l i)) rfl) ?_
    refine ent_nil ?_
    refine ent_k hK8 ?_
    refine ent_condD rfl (fun h16 => ?_) (fun h16 => ?_)
    · refine ent_seq fun K9 hK9 => ?_
      refine ent_region ?_
      refine ent_o rfl (ok_assign rfl) ?_
      refine ent_nil ?_
      refine ent_k hK9 ?_
      refine ent_ret ?_
      exact retR1 (.inr rfl) Try.results58 (resr_tmp (res_cv rfl (cv_bool (by exact (decide_eq_true (nodup_of_take (fun h => ((nodup_take_succ l h0 h8).1 h).2 h16))).symm))))
    · refine ent_skip ?_
      refine ent_k hK6 ?_
      refine ent_region ?_
      refine ent_o rfl (ok_add rfl rfl (by omega) (by omega)) ?_
      refine ent_o rfl (ok_move rfl) ?_
      refine ent_nil ?_
      refine ent_again (s := (i)) (i + 1) ⟨(by first | rfl | assumption | omega | (simp_all; done) | grind), (by first | rfl | assumption | omega | (simp_all; done) | grind), ((nodup_take_succ l h0 h8).2 ⟨hn, h16⟩)⟩ (by first | omega | (dsimp only; omega)) (ent_rep ⟨rfl, rfl, rfl, rfl, trivial⟩ rfl)
  · refine ent_exit ?_
    refine ent_k hK2 ?_
    refine ent_seq fun K10 hK10 => ?_
    refine ent_region ?_
    refine ent_o rfl (ok_assign rfl) ?_
    refine ent_nil ?_
    refine ent_k hK10 ?_
    refine ent_ret ?_
    exact retR1 (.inr rfl) Try.results58 (resr_tmp (res_cv rfl (cv_bool (by exact (decide_eq_false (fun h => h (by rw [List.take_of_length_le (by omega)] at hn; exact hn))).symm))))

theorem nodes_ok (l : List Int) (m n but : Int)  : Ctr Try.prog 48 [aSl 1 false aInt l, aInt m, aInt n, aInt but] (aInt (if (l.length : Int) ≠ m then 3 else lstErr n but l)) := by
  refine ctr_of Try.call48 Try.func48 rfl rfl ?_
  intro w O
  refine ent_len 0 rfl (fun hlen0 => ?_)
  refine ent_seq fun K1 hK1 => ?_
  refine ent_region ?_
  refine ent_o rfl (ok_assign rfl) ?_
  refine ent_nil ?_
  refine ent_k hK1 ?_
  refine ent_seq fun K2 hK2 => ?_
  refine ent_seq fun K3 hK3 => ?_
  refine ent_region ?_
  refine ent_o rfl (ok_move rfl) ?_
  refine ent_o rfl (ok_len rfl Try.runUnderlying29 rfl) ?_
  refine ent_o rfl (ok_move rfl) ?_
  refine ent_o rfl (ok_neq rfl rfl) ?_
  refine ent_nil ?_
  refine ent_k hK3 ?_
  refine ent_condD rfl (fun h14 => ?_) (fun h14 => ?_)
  · refine ent_seq fun K4 hK4 => ?_
    refine ent_region ?_
    refine ent_o rfl (ok_assign rfl) ?_
    refine ent_nil ?_
    refine ent_k hK4 ?_
    refine ent_ret ?_
    exact retR1 (.inr rfl) Try.results48 (resr_tmp (res_cv rfl (cv_int (by rw [if_pos h14]))))
  · refine ent_skip ?_
    refine ent_k hK2 ?_
    refine ent_seq fun K5 hK5 => ?_
    refine ent_seq fun K6 hK6 => ?_
    refine ent_region ?_
    refine ent_o rfl (ok_move rfl) ?_
    refine ent_o rfl (ok_len rfl Try.runUnderlying29 rfl) ?_
    refine ent_o rfl (ok_move rfl) ?_
    refine ent_nil ?_
    refine ent_k hK6 ?_
    refine ent_block ?_
    refine ent_loop (fun (i : Int) => (⟨[(0, aSl 1 false aInt l), (2, aInt n), (3, aInt but), (15, aSl 1 false aInt l), (16, aInt (↑l.length : Int)), (17, aInt i)], []⟩ : St)) (fun (i : Int) => (0 ≤ i) ∧ (i ≤ l.length) ∧ (¬ badIn n but (l.take i.toNat))) (fun (i : Int) => (l.length - i).toNat) 0 ⟨(by first | rfl | assumption | omega | (simp_all; done) | grind), (by first | rfl | assumption | omega | (simp_all; done) | grind), (by simp [badIn])⟩ (ent_rep ⟨rfl, rfl, rfl, rfl, rfl, slot_av (av_int (show 0 = (0 : Int) by first | rfl | assumption | omega | (simp_all; done) | grind)), trivial⟩ rfl) ?_
    rintro i ⟨h0, h1, hn⟩
    show Ent _ (⟨[(0, aSl 1 false aInt l), (2, aInt n), (3, aInt but), (15, aSl 1 false aInt l), (16, aInt (↑l.length : Int)), (17, aInt i)], []⟩ : St) _
    refine ent_seq fun K7 hK7 => ?_
    refine ent_region ?_
    refine ent_o rfl (ok_lss rfl rfl) ?_
    refine ent_nil ?_
    refine ent_k hK7 ?_
    refine ent_seq fun K8 hK8 => ?_
    refine ent_condD rfl (fun h18 => ?_) (fun h18 => ?_)
    · refine ent_skip ?_
      refine ent_k hK8 ?_
      refine ent_seq fun K9 hK9 => ?_
      refine ent_block ?_
      refine ent_seq fun K10 hK10 => ?_
      refine ent_region ?_
      refine ent_o rfl (ok_index 0 sl29 rfl rfl (by omega) (by omega)) ?_
      refine ent_o rfl (ok_load ti3 rfl) ?_
      refine ent_o rfl (ok_assign rfl) ?_
      refine ent_nil ?_
      refine ent_k hK10 ?_
      refine ent_seq fun K11 hK11 => ?_
      refine ent_cut (⟨[(0, aSl 1 false aInt l), (2, aInt n), (3, aInt but), (15, aSl 1 false aInt l), (16, aInt (↑l.length : Int)), (17, aInt i), (32, aBool (decide ((((ix 0 l i) < 0) ∨ (n ≤ (ix 0 l i))) ∨ ((ix 0 l i) = but))))], []⟩) ?_ ?_
      · refine ent_region ?_
        refine ent_o rfl (ok_move rfl) ?_
        refine ent_o rfl (ok_lss rfl rfl) ?_
        refine ent_o rfl (ok_move rfl) ?_
        refine ent_guardXDf rfl rfl rfl rfl (fun hg23 => ?_) (fun hg23 => ?_)
        · refine ent_o rfl (ok_move rfl) ?_
          refine ent_guardXT rfl rfl rfl rfl (decide_eq_false hg23) ?_
          refine ent_o rfl (ok_move rfl) ?_
          refine ent_guardXT rfl rfl rfl rfl (decide_eq_false hg23) ?_
          refine ent_o rfl (ok_geq rfl rfl) ?_
          refine ent_o rfl (ok_pickF rfl (decide_eq_false hg23) rfl) ?_
          refine ent_o rfl (ok_move rfl) ?_
          refine ent_guardXDf rfl rfl rfl rfl (fun hg28 => ?_) (fun hg28 => ?_)
          · refine ent_o rfl (ok_move rfl) ?_
            refine ent_guardXT rfl rfl rfl rfl (decide_eq_false hg28) ?_
            refine ent_o rfl (ok_move rfl) ?_
            refine ent_guardXT rfl rfl rfl rfl (decide_eq_false hg28) ?_
            refine ent_o rfl (ok_eql rfl rfl) ?_
            refine ent_o rfl (ok_pickF rfl (decide_eq_false hg28) rfl) ?_
            refine ent_nil ?_
            exact ent_rep ⟨rfl, rfl, rfl, rfl, rfl, rfl, slot_bool (dq_Q ((or_iff_right (fun h => h.elim hg23 hg28)).trans Iff.rfl)), trivial⟩ rfl
          · refine ent_guardXF rfl rfl rfl rfl (decide_eq_true hg28) ?_
            refine ent_guardXF rfl rfl rfl rfl (decide_eq_true hg28) ?_
            refine ent_o rfl (ok_pickT rfl (decide_eq_true hg28) rfl) ?_
            refine ent_nil ?_
            exact ent_rep ⟨rfl, rfl, rfl, rfl, rfl, rfl, slot_bool (dq_T rfl (Or.inl (Or.inr hg28))), trivial⟩ rfl
        · refine ent_guardXF rfl rfl rfl rfl (decide_eq_true hg23) ?_
          refine ent_guardXF rfl rfl rfl rfl (decide_eq_true hg23) ?_
          refine ent_o rfl (ok_pickT rfl (decide_eq_true hg23) rfl) ?_
          refine ent_o rfl (ok_move rfl) ?_
          refine ent_guardXF rfl rfl rfl rfl rfl ?_
          refine ent_guardXF rfl rfl rfl rfl rfl ?_
          refine ent_guardXF rfl rfl rfl rfl rfl ?_
          refine ent_o rfl (ok_pickT rfl rfl rfl) ?_
          refine ent_nil ?_
          exact ent_rep ⟨rfl, rfl, rfl, rfl, rfl, rfl, slot_bool (dq_T rfl (Or.inl (Or.inl hg23))), trivial⟩ rfl
      refine ent_k hK11 ?_
      refine ent_condD rfl (fun h32 => ?_) (fun h32 => ?_)
      · refine ent_seq fun K12 hK12 => ?_
        refine ent_region ?_
        refine ent_o rfl (ok_assign rfl) ?_
        refine ent_nil ?_
        refine ent_k hK12 ?_
        refine ent_ret ?_
        exact retR1 (.inr rfl) Try.results48 (resr_tmp (res_cv rfl (cv_int (by rw [if_neg h14, lstErr, if_pos (badIn_at h0 h18 h32)]))))
      · refine ent_skip ?_
        refine ent_k hK9 ?_
        refine ent_region ?_
        refine ent_o rfl (ok_add rfl rfl (by omega) (by omega)) ?_
        refine ent_o rfl (ok_move rfl) ?_
        refine ent_nil ?_
        refine ent_again (s := (i)) (i + 1) ⟨(by first | rfl | assumption | omega | (simp_all; done) | grind), (by first | rfl | assumption | omega | (simp_all; done) | grind), (badIn_succ h0 h18 hn h32)⟩ (by first | omega | (dsimp only; omega)) (ent_rep ⟨rfl, rfl, rfl, rfl, rfl, rfl, trivial⟩ rfl)
    · refine ent_exit ?_
      refine ent_k hK5 ?_
      refine ent_seq fun K13 hK13 => ?_
      refine ent_seq fun K14 hK14 => ?_
      refine ent_region ?_
      refine ent_o rfl (ok_move rfl) ?_
      refine ent_o rfl (ok_call (twice_ok l) rfl) ?_
      refine ent_nil ?_
      refine ent_k hK14 ?_
      refine ent_condD rfl (fun h35 => ?_) (fun h35 => ?_)
      · refine ent_seq fun K15 hK15 => ?_
        refine ent_region ?_
        refine ent_o rfl (ok_assign rfl) ?_
        refine ent_nil ?_
        refine ent_k hK15 ?_
        refine ent_ret ?_
        exact retR1 (.inr rfl) Try.results48 (resr_tmp (res_cv rfl (cv_int (by rw [List.take_of_length_le (by omega)] at hn; rw [if_neg h14, lstErr, if_neg hn, if_neg h35]))))
      · refine ent_skip ?_
        refine ent_k hK13 ?_
        refine ent_seq fun K16 hK16 => ?_
        refine ent_region ?_
        refine ent_o rfl (ok_assign rfl) ?_
        refine ent_nil ?_
        refine ent_k hK16 ?_
        refine ent_ret ?_
        exact retR1 (.inr rfl) Try.results48 (resr_tmp (res_cv rfl (cv_int (by rw [List.take_of_length_le (by omega)] at hn; rw [if_neg h14, lstErr, if_neg hn, if_pos (Classical.not_not.1 h35)]))))

theorem list_ok (n : Int) (l : List Int) (but : Int)  : Ctr Try.prog 49 [aInt n, aSl 1 false aInt l, aInt but] (aInt (lstErr n but l)) := by
  refine ctr_of Try.call49 Try.func49 rfl rfl ?_
  intro w O
  refine ent_len 1 rfl (fun hlen1 => ?_)
  refine ent_seq fun K1 hK1 => ?_
  refine ent_region ?_
  refine ent_o rfl (ok_assign rfl) ?_
  refine ent_nil ?_
  refine ent_k hK1 ?_
  refine ent_seq fun K2 hK2 => ?_
  refine ent_seq fun K3 hK3 => ?_
  refine ent_region ?_
  refine ent_o rfl (ok_assign rfl) ?_
  refine ent_nil ?_
  refine ent_k hK3 ?_
  refine ent_block ?_
  refine ent_loop (fun (i : Int) => (⟨[(0, aInt n), (1, aSl 1 false aInt l), (2, aInt but), (7, aInt i)], []⟩ : St)) (fun (i : Int) => (0 ≤ i) ∧ (i ≤ l.length) ∧ (¬ badIn n but (l.take i.toNat))) (fun (i : Int) => (l.length - i).toNat) 0 ⟨(by first | rfl | assumption | omega | (simp_all; done) | grind), (by first | rfl | assumption | omega | (simp_all; done) | grind), (by simp [badIn])⟩ (ent_rep ⟨rfl, rfl, rfl, slot_av (av_int (show 0 = (0 : Int) by first | rfl | assumption | omega | (simp_all; done) | grind)), trivial⟩ rfl) ?_
  rintro i ⟨h0, h1, hn⟩
  show Ent _ (⟨[(0, aInt n), (1, aSl 1 false aInt l), (2, aInt but), (7, aInt i)], []⟩ : St) _
  refine ent_seq fun K4 hK4 => ?_
  refine ent_seq fun K5 hK5 => ?_
  refine ent_region ?_
  refine ent_o rfl (ok_move rfl) ?_
  refine ent_o rfl (ok_move rfl) ?_
  refine ent_o rfl (ok_len rfl Try.runUnderlying29 rfl) ?_
  refine ent_o rfl (ok_lss rfl rfl) ?_
  refine ent_nil ?_
  refine ent_k hK5 ?_
  refine ent_condD rfl (fun h13 => ?_) (fun h13 => ?_)
  · refine ent_skip ?_
    refine ent_k hK4 ?_
    refine ent_seq fun K6 hK6 => ?_
    refine ent_block ?_
    refine ent_seq fun K7 hK7 => ?_
    refine ent_cut (⟨[(0, aInt n), (1, aSl 1 false aInt l), (2, aInt but), (7, aInt i), (36, aBool (decide ((((ix 0 l i) < 0) ∨ (n ≤ (ix 0 l i))) ∨ ((ix 0 l i) = but))))], []⟩) ?_ ?_
    · refine ent_region ?_
      refine ent_o rfl (ok_move rfl) ?_
      refine ent_o rfl (ok_move rfl) ?_
      refine ent_o rfl (ok_index 0 sl29 rfl rfl (by omega) (by omega)) ?_
      refine ent_o rfl (ok_load ti3 rfl) ?_
      refine ent_o rfl (ok_lss rfl rfl) ?_
      refine ent_o rfl (ok_move rfl) ?_
      refine ent_guardXDf rfl rfl rfl rfl (fun hg21 => ?_) (fun hg21 => ?_)
      · refine ent_o rfl (ok_move rfl) ?_
        refine ent_guardXT rfl rfl rfl rfl (decide_eq_false hg21) ?_
        refine ent_o rfl (ok_move rfl) ?_
        refine ent_guardXT rfl rfl rfl rfl (decide_eq_false hg21) ?_
        refine ent_o rfl (ok_index 0 sl29 rfl rfl (by omega) (by omega)) ?_
        refine ent_guardXT rfl rfl rfl rfl (decide_eq_false hg21) ?_
        refine ent_o rfl (ok_load ti3 rfl) ?_
        refine ent_guardXT rfl rfl rfl rfl (decide_eq_false hg21) ?_
        refine ent_o rfl (ok_move rfl) ?_
        refine ent_guardXT rfl rfl rfl rfl (decide_eq_false hg21) ?_
        refine ent_o rfl (ok_geq rfl rfl) ?_
        refine ent_o rfl (ok_pickF rfl (decide_eq_false hg21) rfl) ?_
        refine ent_o rfl (ok_move rfl) ?_
        refine ent_guardXDf rfl rfl rfl rfl (fun hg29 => ?_) (fun hg29 => ?_)
        · refine ent_o rfl (ok_move rfl) ?_
          refine ent_guardXT rfl rfl rfl rfl (decide_eq_false hg29) ?_
          refine ent_o rfl (ok_move rfl) ?_
          refine ent_guardXT rfl rfl rfl rfl (decide_eq_false hg29) ?_
          refine ent_o rfl (ok_index 0 sl29 rfl rfl (by omega) (by omega)) ?_
          refine ent_guardXT rfl rfl rfl rfl (decide_eq_false hg29) ?_
          refine ent_o rfl (ok_load ti3 rfl) ?_
          refine ent_guardXT rfl rfl rfl rfl (decide_eq_false hg29) ?_
          refine ent_o rfl (ok_move rfl) ?_
          refine ent_guardXT rfl rfl rfl rfl (decide_eq_false hg29) ?_
          refine ent_o rfl (ok_eql rfl rfl) ?_
          refine ent_o rfl (ok_pickF rfl (decide_eq_false hg29) rfl) ?_
          refine ent_nil ?_
          exact ent_rep ⟨rfl, rfl, rfl, rfl, slot_bool (dq_Q ((or_iff_right (fun h => h.elim hg21 hg29)).trans Iff.rfl)), trivial⟩ rfl
        · refine ent_guardXF rfl rfl rfl rfl (decide_eq_true hg29) ?_
          refine ent_guardXF rfl rfl rfl rfl (decide_eq_true hg29) ?_
          refine ent_guardXF rfl rfl rfl rfl (decide_eq_true hg29) ?_
          refine ent_guardXF rfl rfl rfl rfl (decide_eq_true hg29) ?_
          refine ent_guardXF rfl rfl rfl rfl (decide_eq_true hg29) ?_
          refine ent_o rfl (ok_pickT rfl (decide_eq_true hg29) rfl) ?_
          refine ent_nil ?_
          exact ent_rep ⟨rfl, rfl, rfl, rfl, slot_bool (dq_T rfl (Or.inl (Or.inr hg29))), trivial⟩ rfl
      · refine ent_guardXF rfl rfl rfl rfl (decide_eq_true hg21) ?_
        refine ent_guardXF rfl rfl rfl rfl (decide_eq_true hg21) ?_
        refine ent_guardXF rfl rfl rfl rfl (decide_eq_true hg21) ?_
        refine ent_guardXF rfl rfl rfl rfl (decide_eq_true hg21) ?_
        refine ent_guardXF rfl rfl rfl rfl (decide_eq_true hg21) ?_
        refine ent_o rfl (ok_pickT rfl (decide_eq_true hg21) rfl) ?_
        refine ent_o rfl (ok_move rfl) ?_
        refine ent_guardXF rfl rfl rfl rfl rfl ?_
        refine ent_guardXF rfl rfl rfl rfl rfl ?_
        refine ent_guardXF rfl rfl rfl rfl rfl ?_
        refine ent_guardXF rfl rfl rfl rfl rfl ?_
        refine ent_guardXF rfl rfl rfl rfl rfl ?_
        refine ent_guardXF rfl rfl rfl rfl rfl ?_
        refine ent_o rfl (ok_pickT rfl rfl rfl) ?_
        refine ent_nil ?_
        exact ent_rep ⟨rfl, rfl, rfl, rfl, slot_bool (dq_T rfl (Or.inl (Or.inl hg21))), trivial⟩ rfl
    refine ent_k hK7 ?_
    refine ent_condD rfl (fun h36 => ?_) (fun h36 => ?_)
    · refine ent_seq fun K8 hK8 => ?_
      refine ent_region ?_
      refine ent_o rfl (ok_assign rfl) ?_
      refine ent_nil ?_
      refine ent_k hK8 ?_
      refine ent_ret ?_
      exact retR1 (.inr rfl) Try.results49 (resr_tmp (res_cv rfl (cv_int (by rw [lstErr, if_pos (badIn_at h0 h13 h36)]))))
    · refine ent_skip ?_
      refine ent_k hK6 ?_
      refine ent_region ?_
      refine ent_o rfl (ok_move rfl) ?_
      refine ent_o rfl (ok_add rfl rfl (by omega) (by omega)) ?_
      refine ent_o rfl (ok_assign rfl) ?_
      refine ent_nil ?_
      refine ent_again (s := (i)) (i + 1) ⟨(by first | rfl | assumption | omega | (simp_all; done) | grind), (by first | rfl | assumption | omega | (simp_all; done) | grind), (badIn_succ h0 h13 hn h36)⟩ (by first | omega | (dsimp only; omega)) (ent_rep ⟨rfl, rfl, rfl, rfl, trivial⟩ rfl)
  · refine ent_exit ?_
    refine ent_k hK2 ?_
    refine ent_seq fun K9 hK9 => ?_
    refine ent_seq fun K10 hK10 => ?_
    refine ent_region ?_
    refine ent_o rfl (ok_assign rfl) ?_
    refine ent_nil ?_
    refine ent_k hK10 ?_
    refine ent_block ?_
    refine ent_loop (fun (i : Int) => (⟨[(1, aSl 1 false aInt l), (8, aInt i)], []⟩ : St)) (fun (i : Int) => (0 ≤ i) ∧ (i ≤ l.length) ∧ ((l.take i.toNat).Nodup)) (fun (i : Int) => (l.length - i).toNat) 0 ⟨(by first | rfl | assumption | omega | (simp_all; done) | grind), (by first | rfl | assumption | omega | (simp_all; done) | grind), (by simp)⟩ (ent_rep ⟨rfl, slot_av (av_int (show 0 = (0 : Int) by first | rfl | assumption | omega | (simp_all; done) | grind)), trivial⟩ rfl) ?_
    rintro i ⟨k0, k1, kn⟩
    show Ent _ (⟨[(1, aSl 1 false aInt l), (8, aInt i)], []⟩ : St) _
    refine ent_seq fun K11 hK11 => ?_
    refine ent_seq fun K12 hK12 => ?_
    refine ent_region ?_
    refine ent_o rfl (ok_move rfl) ?_
    refine ent_o rfl (ok_move rfl) ?_
    refine ent_o rfl (ok_len rfl Try.runUnderlying29 rfl) ?_
    refine ent_o rfl (ok_lss rfl rfl) ?_
    refine ent_nil ?_
    refine ent_k hK12 ?_
    refine ent_condD rfl (fun h40 => ?_) (fun h40 => ?_)
    · refine ent_skip ?_
      refine ent_k hK11 ?_
      refine ent_seq fun K13 hK13 => ?_
      refine ent_block ?_
      refine ent_seq fun K14 hK14 => ?_
      refine ent_region ?_
      refine ent_o rfl (ok_assign rfl) ?_
      refine ent_nil ?_
      refine ent_k hK14 ?_
      refine ent_block ?_
      refine ent_loop (fun (j : Int) => (⟨[(1, aSl 1 false aInt l), (8, aInt i), (9, aInt j)], []⟩ : St)) (fun (j : Int) => (0 ≤ j) ∧ (j ≤ i) ∧ (∀ q : Nat, (q : Int) < j → ix 0 l i ≠ ix 0 l q)) (fun (j : Int) => (i - j).toNat) 0 ⟨(by first | rfl | assumption | omega | (simp_all; done) | grind), (by first | rfl | assumption | omega | (simp_all; done) | grind), (fun q hq => by omega)⟩ (ent_rep ⟨rfl, rfl, slot_av (av_int (show 0 = (0 : Int) by first | rfl | assumption | omega | (simp_all; done) | grind)), trivial⟩ rfl) ?_
      rintro j ⟨j0, j1, jn⟩
      show Ent _ (⟨[(1, aSl 1 false aInt l), (8, aInt i), (9, aInt j)], []⟩ : St) _
      refine ent_seq fun K15 hK15 => ?_
      refine ent_seq fun K16 hK16 => ?_
      refine ent_region ?_
      refine ent_o rfl (ok_move rfl) ?_
      refine ent_o rfl (ok_move rfl) ?_
      refine ent_o rfl (ok_lss rfl rfl) ?_
      refine ent_nil ?_
      refine ent_k hK16 ?_
      refine ent_condD rfl (fun h45 => ?_) (fun h45 => ?_)
      · refine ent_skip ?_
        refine ent_k hK15 ?_
        refine ent_seq fun K17 hK17 => ?_
        refine ent_block ?_
        refine ent_seq fun K18 hK18 => ?_
        refine ent_draw 9 mixed (by kernel_rfl) (by kernel_rfl) (by kernel_rfl) ?_
        refine dw_o rfl (ok_move rfl) ?_
        refine dw_o rfl (ok_move rfl) ?_
        refine dw_o rfl (ok_index 0 sl29 rfl rfl (by omega) (by omega)) ?_
        refine dw_o rfl (ok_load ti3 rfl) ?_
        refine dw_o rfl (ok_move rfl) ?_
        refine dw_o rfl (ok_move rfl) ?_
        refine dw_o rfl (ok_index 0 sl29 rfl rfl (by omega) (by omega)) ?_
        refine dw_o rfl (ok_load ti3 rfl) ?_
        refine dw_o rfl (ok_eql rfl rfl) ?_
        refine dw_nil ?_
        refine ent_nil ?_
        refine ent_k hK18 ?_
        refine ent_condD rfl (fun h56 => ?_) (fun h56 => ?_)
        · refine ent_seq fun K19 hK19 => ?_
          refine ent_region ?_
          refine ent_o rfl (ok_assign rfl) ?_
          refine ent_nil ?_
          refine ent_k hK19 ?_
          refine ent_ret ?_
          exact retR1 (.inr rfl) Try.results49 (resr_tmp (res_cv rfl (cv_int (by rw [List.take_of_length_le (by omega)] at hn; rw [lstErr, if_neg hn, if_neg (nodup_of_take (n := (i + 1).toNat) (fun h => ((nodup_take_succ l k0 h40).1 h).2 (by rw [show ix 0 l i = l.getD j.toNat 0 from h56]; exact getD_mem_take 0 l _ _ (by omega) (by omega))))]))))
        · refine ent_skip ?_
          refine ent_k hK17 ?_
          refine ent_region ?_
          refine ent_o rfl (ok_move rfl) ?_
          refine ent_o rfl (ok_add rfl rfl (by omega) (by omega)) ?_
          refine ent_o rfl (ok_assign rfl) ?_
          refine ent_nil ?_
          refine ent_again (s := (j)) (j + 1) ⟨(by first | rfl | assumption | omega | (simp_all; done) | grind), (by first | rfl | assumption | omega | (simp_all; done) | grind), (fun q hq => by by_cases hqj : (q : Int) = j; (rw [hqj]; exact h56); exact jn q (by omega))⟩ (by first | omega | (dsimp only; omega)) (ent_rep ⟨rfl, rfl, rfl, trivial⟩ rfl)
      · refine ent_exit ?_
        refine ent_k hK13 ?_
        refine ent_region ?_
        refine ent_o rfl (ok_move rfl) ?_
        refine ent_o rfl (ok_add rfl rfl (by omega) (by omega)) ?_
        refine ent_o rfl (ok_assign rfl) ?_
        refine ent_nil ?_
        refine ent_again (s := (i)) (i + 1) ⟨(by first | rfl | assumption | omega | (simp_all; done) | grind), (by first | rfl | assumption | omega | (simp_all; done) | grind), ((nodup_take_succ l k0 h40).2 ⟨kn, fun hm => by obtain ⟨q, q1, q2, q3⟩ := mem_take_getD 0 l _ _ hm; exact jn q (by omega) q3.symm⟩)⟩ (by first | omega | (dsimp only; omega)) (ent_rep ⟨rfl, rfl, trivial⟩ rfl)
    · refine ent_exit ?_
      refine ent_k hK9 ?_
      refine ent_seq fun K20 hK20 => ?_
      refine ent_region ?_
      refine ent_o rfl (ok_assign rfl) ?_
      refine ent_nil ?_
      refine ent_k hK20 ?_
      refine ent_ret ?_
      exact retR1 (.inr rfl) Try.results49 (resr_tmp (res_cv rfl (cv_int (by rw [List.take_of_length_le (by omega)] at hn kn; rw [lstErr, if_neg hn, if_pos kn]))))
end Go.Proofs.Ytaipghchkamajaa
