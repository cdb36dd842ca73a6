/-
  Graph and its reference compute the same network, or the same error.
-/
import Derived.Test.YtaipghchkamajaaProg
import Derived.Test.YtaipghchkamajaaTab
import Derived.Test.YtaipghchkamajaaPlainG
import Derived.Test.YtaipghchkamajaaLists
open Go Go.Cw
namespace Go.Proofs.Ytaipghchkamajaa
set_option maxRecDepth 100000
set_option linter.unusedVariables false
set_option linter.unusedSimpArgs false

abbrev aFl (f : Fl) : AV := aAgg [aInt f.1, aInts f.2]
abbrev aArc (a : Arc3) : AV := aAgg [aInt a.1, aInt a.2.1, aInt a.2.2]
theorem flat_arc : Flat aArc := fun x h O h' O' v hv => pl_agg (As := [aInt x.1, aInt x.2.1, aInt x.2.2]) ⟨pl_ex, pl_ex, pl_ex, trivial⟩ h O h' O' v hv

theorem GraphArgs_ok (n a b : Int) (h : List Fl) (c : List Int) (hh : h.length ≤ 130) (hc : (c.length : Int) ≤ 140737488355328) : Ctr Try.prog 20 [aInt n, aInt a, aInt b, aSl 2 true aFl h, aSl 1 false aInt c] (aInt (gErr n a b h c)) := by
  refine ctr_of Try.call20 Try.func20 rfl rfl ?_
  intro w O
  refine ent_len 3 rfl (fun hlen3 => ?_)
  refine ent_len 4 rfl (fun hlen4 => ?_)
  refine ent_seq fun K1 hK1 => ?_
  refine ent_region ?_
  refine ent_o rfl (ok_assign rfl) ?_
  refine ent_nil ?_
  refine ent_k hK1 ?_
  refine ent_seq fun K2 hK2 => ?_
  refine ent_seq fun K3 hK3 => ?_
  refine ent_cut (⟨[(0, aInt n), (3, aSl 2 true aFl h), (4, aSl 1 false aInt c), (36, aBool (decide ((((((n < 1) ∨ (64 < n)) ∨ (a < 0)) ∨ (1048576 < a)) ∨ (b < 0)) ∨ (1048576 < b))))], []⟩) ?_ ?_
  · refine ent_region ?_
    refine ent_o rfl (ok_move rfl) ?_
    refine ent_o rfl (ok_lss rfl rfl) ?_
    refine ent_o rfl (ok_move rfl) ?_
    refine ent_guardXDf rfl rfl rfl rfl (fun hg17 => ?_) (fun hg17 => ?_)
    · refine ent_o rfl (ok_move rfl) ?_
      refine ent_guardXT rfl rfl rfl rfl (decide_eq_false hg17) ?_
      refine ent_o rfl (ok_gtr rfl rfl) ?_
      refine ent_o rfl (ok_pickF rfl (decide_eq_false hg17) rfl) ?_
      refine ent_o rfl (ok_move rfl) ?_
      refine ent_guardXDf rfl rfl rfl rfl (fun hg21 => ?_) (fun hg21 => ?_)
      · refine ent_o rfl (ok_move rfl) ?_
        refine ent_guardXT rfl rfl rfl rfl (decide_eq_false hg21) ?_
        refine ent_o rfl (ok_lss rfl rfl) ?_
        refine ent_o rfl (ok_pickF rfl (decide_eq_false hg21) rfl) ?_
        refine ent_o rfl (ok_move rfl) ?_
        refine ent_guardXDf rfl rfl rfl rfl (fun hg25 => ?_) (fun hg25 => ?_)
        · refine ent_o rfl (ok_move rfl) ?_
          refine ent_guardXT rfl rfl rfl rfl (decide_eq_false hg25) ?_
          refine ent_o rfl (ok_gtr rfl rfl) ?_
          refine ent_o rfl (ok_pickF rfl (decide_eq_false hg25) rfl) ?_
          refine ent_o rfl (ok_move rfl) ?_
          refine ent_guardXDf rfl rfl rfl rfl (fun hg29 => ?_) (fun hg29 => ?_)
          · refine ent_o rfl (ok_move rfl) ?_
            refine ent_guardXT rfl rfl rfl rfl (decide_eq_false hg29) ?_
            refine ent_o rfl (ok_lss rfl rfl) ?_
            refine ent_o rfl (ok_pickF rfl (decide_eq_false hg29) rfl) ?_
            refine ent_o rfl (ok_move rfl) ?_
            refine ent_guardXDf rfl rfl rfl rfl (fun hg33 => ?_) (fun hg33 => ?_)
            · refine ent_o rfl (ok_move rfl) ?_
              refine ent_guardXT rfl rfl rfl rfl (decide_eq_false hg33) ?_
              refine ent_o rfl (ok_gtr rfl rfl) ?_
              refine ent_o rfl (ok_pickF rfl (decide_eq_false hg33) rfl) ?_
              refine ent_nil ?_
              exact ent_rep ⟨rfl, rfl, rfl, slot_bool (dq_Q ((or_iff_right (fun h => h.elim (fun h => h.elim (fun h => h.elim (fun h => h.elim hg17 hg21) hg25) hg29) hg33)).trans Iff.rfl)), trivial⟩ rfl
            · refine ent_guardXF rfl rfl rfl rfl (decide_eq_true hg33) ?_
              refine ent_o rfl (ok_pickT rfl (decide_eq_true hg33) rfl) ?_
              refine ent_nil ?_
              exact ent_rep ⟨rfl, rfl, rfl, slot_bool (dq_T rfl (Or.inl (Or.inr hg33))), trivial⟩ rfl
          · refine ent_guardXF rfl rfl rfl rfl (decide_eq_true hg29) ?_
            refine ent_o rfl (ok_pickT rfl (decide_eq_true hg29) rfl) ?_
            refine ent_o rfl (ok_move rfl) ?_
            refine ent_guardXF rfl rfl rfl rfl rfl ?_
            refine ent_guardXF rfl rfl rfl rfl rfl ?_
            refine ent_o rfl (ok_pickT rfl rfl rfl) ?_
            refine ent_nil ?_
            exact ent_rep ⟨rfl, rfl, rfl, slot_bool (dq_T rfl (Or.inl (Or.inl (Or.inr hg29)))), trivial⟩ rfl
        · refine ent_guardXF rfl rfl rfl rfl (decide_eq_true hg25) ?_
          refine ent_o rfl (ok_pickT rfl (decide_eq_true hg25) rfl) ?_
          refine ent_o rfl (ok_move rfl) ?_
          refine ent_guardXF rfl rfl rfl rfl rfl ?_
          refine ent_guardXF rfl rfl rfl rfl rfl ?_
          refine ent_o rfl (ok_pickT rfl rfl rfl) ?_
          refine ent_o rfl (ok_move rfl) ?_
          refine ent_guardXF rfl rfl rfl rfl rfl ?_
          refine ent_guardXF rfl rfl rfl rfl rfl ?_
          refine ent_o rfl (ok_pickT rfl rfl rfl) ?_
          refine ent_nil ?_
          exact ent_rep ⟨rfl, rfl, rfl, slot_bool (dq_T rfl (Or.inl (Or.inl (Or.inl (Or.inr hg25))))), trivial⟩ rfl
      · refine ent_guardXF rfl rfl rfl rfl (decide_eq_true hg21) ?_
        refine ent_o rfl (ok_pickT rfl (decide_eq_true hg21) rfl) ?_
        refine ent_o rfl (ok_move rfl) ?_
        refine ent_guardXF rfl rfl rfl rfl rfl ?_
        refine ent_guardXF rfl rfl rfl rfl rfl ?_
        refine ent_o rfl (ok_pickT rfl rfl rfl) ?_
        refine ent_o rfl (ok_move rfl) ?_
        refine ent_guardXF rfl rfl rfl rfl rfl ?_
        refine ent_guardXF rfl rfl rfl rfl rfl ?_
        refine ent_o rfl (ok_pickT rfl rfl rfl) ?_
        refine ent_o rfl (ok_move rfl) ?_
        refine ent_guardXF rfl rfl rfl rfl rfl ?_
        refine ent_guardXF rfl rfl rfl rfl rfl ?_
        refine ent_o rfl (ok_pickT rfl rfl rfl) ?_
        refine ent_nil ?_
        exact ent_rep ⟨rfl, rfl, rfl, slot_bool (dq_T rfl (Or.inl (Or.inl (Or.inl (Or.inl (Or.inr hg21)))))), trivial⟩ rfl
    · refine ent_guardXF rfl rfl rfl rfl (decide_eq_true hg17) ?_
      refine ent_o rfl (ok_pickT rfl (decide_eq_true hg17) rfl) ?_
      refine ent_o rfl (ok_move rfl) ?_
      refine ent_guardXF rfl rfl rfl rfl rfl ?_
      refine ent_guardXF rfl rfl rfl rfl rfl ?_
      refine ent_o rfl (ok_pickT rfl rfl rfl) ?_
      refine ent_o rfl (ok_move rfl) ?_
      refine ent_guardXF rfl rfl rfl rfl rfl ?_
      refine ent_guardXF rfl rfl rfl rfl rfl ?_
      refine ent_o rfl (ok_pickT rfl rfl rfl) ?_
      refine ent_o rfl (ok_move rfl) ?_
      refine ent_guardXF rfl rfl rfl rfl rfl ?_
      refine ent_guardXF rfl rfl rfl rfl rfl ?_
      refine ent_o rfl (ok_pickT rfl rfl rfl) ?_
      refine ent_o rfl (ok_move rfl) ?_
      refine ent_guardXF rfl rfl rfl rfl rfl ?_
      refine ent_guardXF rfl rfl rfl rfl rfl ?_
      refine ent_o rfl (ok_pickT rfl rfl rfl) ?_
      refine ent_nil ?_
      exact ent_rep ⟨rfl, rfl, rfl, slot_bool (dq_T rfl (Or.inl (Or.inl (Or.inl (Or.inl (Or.inl hg17)))))), trivial⟩ rfl
  refine ent_k hK3 ?_
  refine ent_condD rfl (fun h36 => ?_) (fun h36 => ?_)
  · have hb : rngBad n a b := h36
    refine ent_seq fun K4 hK4 => ?_
    refine ent_region ?_
    refine ent_o rfl (ok_assign rfl) ?_
    refine ent_nil ?_
    refine ent_k hK4 ?_
    refine ent_ret ?_
    exact retR1 (.inr rfl) Try.results20 (resr_tmp (res_cv rfl (cv_int (by rw [gErr, if_pos hb]))))
  · have hb : ¬ rngBad n a b := h36
    refine ent_skip ?_
    refine ent_k hK2 ?_
    refine ent_seq fun K5 hK5 => ?_
    refine ent_region ?_
    refine ent_o rfl (ok_move rfl) ?_
    refine ent_o rfl (ok_mul rfl rfl (by omega) (by omega)) ?_
    refine ent_o rfl (ok_move rfl) ?_
    refine ent_o rfl (ok_len rfl Try.runUnderlying28 rfl) ?_
    refine ent_o rfl (ok_add rfl rfl (by omega) (by omega)) ?_
    refine ent_o rfl (ok_move rfl) ?_
    refine ent_o rfl (ok_len rfl Try.runUnderlying29 rfl) ?_
    refine ent_o rfl (ok_add rfl rfl (by omega) (by omega)) ?_
    refine ent_o rfl (ok_assign rfl) ?_
    refine ent_nil ?_
    refine ent_k hK5 ?_
    refine ent_seq fun K6 hK6 => ?_
    refine ent_seq fun K7 hK7 => ?_
    refine ent_region ?_
    refine ent_o rfl (ok_assign rfl) ?_
    refine ent_nil ?_
    refine ent_k hK7 ?_
    refine ent_block ?_
    refine ent_loop (fun (i : Int) => (⟨[(0, aInt n), (3, aSl 2 true aFl h), (4, aSl 1 false aInt c), (11, aInt (2 * n + (h.length : Int) + (c.length : Int) + hArcs (h.take i.toNat))), (12, aInt i)], []⟩ : St)) (fun (i : Int) => (0 ≤ i) ∧ (i ≤ h.length) ∧ (hErr n (h.take i.toNat) = 0)) (fun (i : Int) => (h.length - i).toNat) 0 ⟨(by first | rfl | assumption | omega | (simp_all; done) | grind), (by first | rfl | assumption | omega | (simp_all; done) | grind), (by simp [hErr])⟩ (ent_rep ⟨rfl, rfl, rfl, slot_av (av_int (show ((2 * n) + (↑h.length : Int)) + (↑c.length : Int) = 2 * n + (h.length : Int) + (c.length : Int) + hArcs (h.take (0 : Int).toNat) by simp [hArcs])), slot_av (av_int (show 0 = (0 : Int) by first | rfl | assumption | omega | (simp_all; done) | grind)), trivial⟩ rfl) ?_
    rintro i ⟨h0, h1, hp⟩
    show Ent _ (⟨[(0, aInt n), (3, aSl 2 true aFl h), (4, aSl 1 false aInt c), (11, aInt (2 * n + (h.length : Int) + (c.length : Int) + hArcs (h.take i.toNat))), (12, aInt i)], []⟩ : St) _
    have hn : 1 ≤ n ∧ n ≤ 64 := by omega
    have hk := hArcs_le hn.2 hp
    have hkl : (List.length (h.take i.toNat) : Int) ≤ 130 := by simp; omega
    refine ent_seq fun K8 hK8 => ?_
    refine ent_seq fun K9 hK9 => ?_
    refine ent_region ?_
    refine ent_o rfl (ok_move rfl) ?_
    refine ent_o rfl (ok_move rfl) ?_
    refine ent_o rfl (ok_len rfl Try.runUnderlying28 rfl) ?_
    refine ent_o rfl (ok_lss rfl rfl) ?_
    refine ent_nil ?_
    refine ent_k hK9 ?_
    refine ent_condD rfl (fun h48 => ?_) (fun h48 => ?_)
    · refine ent_skip ?_
      refine ent_k hK8 ?_
      refine ent_seq fun K10 hK10 => ?_
      refine ent_block ?_
      refine ent_seq fun K11 hK11 => ?_
      refine ent_seq fun K12 hK12 => ?_
      refine ent_cut (⟨[(0, aInt n), (3, aSl 2 true aFl h), (4, aSl 1 false aInt c), (11, aInt (2 * n + (h.length : Int) + (c.length : Int) + hArcs (h.take i.toNat))), (12, aInt i), (65, aBool (decide ((((ix (0, []) h i).1) < 0) ∨ (n ≤ ((ix (0, []) h i).1)))))], []⟩) ?_ ?_
      · refine ent_region ?_
        refine ent_o rfl (ok_move rfl) ?_
        refine ent_o rfl (ok_move rfl) ?_
        refine ent_o rfl (ok_index (0, []) sl28 rfl rfl (by omega) (by omega)) ?_
        refine ent_o rfl (ok_fieldAddr1 Try.runUnderlying40 rfl Try.sizeOf3 rfl rfl) ?_
        refine ent_o rfl (ok_load ti3 rfl) ?_
        refine ent_o rfl (ok_lss rfl rfl) ?_
        refine ent_o rfl (ok_move rfl) ?_
        refine ent_guardXDf rfl rfl rfl rfl (fun hg57 => ?_) (fun hg57 => ?_)
        · refine ent_o rfl (ok_move rfl) ?_
          refine ent_guardXT rfl rfl rfl rfl (decide_eq_false hg57) ?_
          refine ent_o rfl (ok_move rfl) ?_
          refine ent_guardXT rfl rfl rfl rfl (decide_eq_false hg57) ?_
          refine ent_o rfl (ok_index (0, []) sl28 rfl rfl (by omega) (by omega)) ?_
          refine ent_guardXT rfl rfl rfl rfl (decide_eq_false hg57) ?_
          refine ent_o rfl (ok_fieldAddr1 Try.runUnderlying40 rfl Try.sizeOf3 rfl rfl) ?_
          refine ent_guardXT rfl rfl rfl rfl (decide_eq_false hg57) ?_
          refine ent_o rfl (ok_load ti3 rfl) ?_
          refine ent_guardXT rfl rfl rfl rfl (decide_eq_false hg57) ?_
          refine ent_o rfl (ok_move rfl) ?_
          refine ent_guardXT rfl rfl rfl rfl (decide_eq_false hg57) ?_
          refine ent_o rfl (ok_geq rfl rfl) ?_
          refine ent_o rfl (ok_pickF rfl (decide_eq_false hg57) rfl) ?_
          refine ent_nil ?_
          exact ent_rep ⟨rfl, rfl, rfl, rfl, rfl, slot_bool (dq_Q ((or_iff_right hg57).trans Iff.rfl)), trivial⟩ rfl
        · refine ent_guardXF rfl rfl rfl rfl (decide_eq_true hg57) ?_
          refine ent_guardXF rfl rfl rfl rfl (decide_eq_true hg57) ?_
          refine ent_guardXF rfl rfl rfl rfl (decide_eq_true hg57) ?_
          refine ent_guardXF rfl rfl rfl rfl (decide_eq_true hg57) ?_
          refine ent_guardXF rfl rfl rfl rfl (decide_eq_true hg57) ?_
          refine ent_guardXF rfl rfl rfl rfl (decide_eq_true hg57) ?_
          refine ent_o rfl (ok_pickT rfl (decide_eq_true hg57) rfl) ?_
          refine ent_nil ?_
          exact ent_rep ⟨rfl, rfl, rfl, rfl, rfl, slot_bool (dq_T rfl (Or.inl hg57)), trivial⟩ rfl
      refine ent_k hK12 ?_
      refine ent_condD rfl (fun h65 => ?_) (fun h65 => ?_)
      · refine ent_seq fun K13 hK13 => ?_
        refine ent_region ?_
        refine ent_o rfl (ok_assign rfl) ?_
        refine ent_nil ?_
        refine ent_k hK13 ?_
        refine ent_ret ?_
        exact retR1 (.inr rfl) Try.results20 (resr_tmp (res_cv rfl (cv_int (by rw [gErr, if_neg hb, hErr_at h0 h48 hp (by rw [flErr, if_pos h65]; decide), flErr, if_pos h65]; rfl))))
      · refine ent_skip ?_
        refine ent_k hK11 ?_
        refine ent_seq fun K14 hK14 => ?_
        refine ent_draw 13 mixed (by kernel_rfl) (by kernel_rfl) (by kernel_rfl) ?_
        refine dw_o rfl (ok_move rfl) ?_
        refine dw_o rfl (ok_move rfl) ?_
        refine dw_o rfl (ok_move rfl) ?_
        refine dw_o rfl (ok_index (0, []) sl28 rfl rfl (by omega) (by omega)) ?_
        refine dw_o rfl (ok_fieldAddr1 Try.runUnderlying40 rfl Try.sizeOf29 rfl rfl) ?_
        refine dw_o rfl (ok_load ti29 rfl) ?_
        refine dw_o rfl (ok_move rfl) ?_
        refine dw_o rfl (ok_move rfl) ?_
        refine dw_o rfl (ok_index (0, []) sl28 rfl rfl (by omega) (by omega)) ?_
        refine dw_o rfl (ok_fieldAddr1 Try.runUnderlying40 rfl Try.sizeOf3 rfl rfl) ?_
        refine dw_o rfl (ok_load ti3 rfl) ?_
        refine dw_o rfl (ok_call (list_ok n ((ix (0, []) h i).2) ((ix (0, []) h i).1)) rfl) ?_
        refine dw_o rfl (ok_assign rfl) ?_
        refine dw_nil ?_
        refine ent_nil ?_
        refine ent_k hK14 ?_
        refine ent_seq fun K15 hK15 => ?_
        refine ent_seq fun K16 hK16 => ?_
        refine ent_region ?_
        refine ent_o rfl (ok_move rfl) ?_
        refine ent_o rfl (ok_neq rfl rfl) ?_
        refine ent_nil ?_
        refine ent_k hK16 ?_
        refine ent_condD rfl (fun h79 => ?_) (fun h79 => ?_)
        · refine ent_seq fun K17 hK17 => ?_
          refine ent_region ?_
          refine ent_o rfl (ok_move rfl) ?_
          refine ent_o rfl (ok_assign rfl) ?_
          refine ent_nil ?_
          refine ent_k hK17 ?_
          refine ent_ret ?_
          exact retR1 (.inr rfl) Try.results20 (resr_tmp (res_cv rfl (cv_int (by rw [gErr, if_neg hb, hErr_at h0 h48 hp (by rw [flErr, if_neg h65]; exact h79), flErr, if_neg h65, if_neg h79]))))
        · have he : flErr n (ix (0, []) h i) = 0 := by rw [flErr, if_neg h65]; exact Classical.not_not.1 h79
          have hl := lstErr_len (flErr_zero he).2.2 hn.2
          refine ent_skip ?_
          refine ent_k hK15 ?_
          refine ent_region ?_
          refine ent_o rfl (ok_move rfl) ?_
          refine ent_o rfl (ok_move rfl) ?_
          refine ent_o rfl (ok_move rfl) ?_
          refine ent_o rfl (ok_index (0, []) sl28 rfl rfl (by omega) (by omega)) ?_
          refine ent_o rfl (ok_fieldAddr1 Try.runUnderlying40 rfl Try.sizeOf29 rfl rfl) ?_
          refine ent_o rfl (ok_load ti29 rfl) ?_
          refine ent_o rfl (ok_len rfl Try.runUnderlying29 rfl) ?_
          refine ent_o rfl (ok_add rfl rfl (by omega) (by omega)) ?_
          refine ent_o rfl (ok_assign rfl) ?_
          refine ent_nil ?_
          refine ent_k hK10 ?_
          refine ent_region ?_
          refine ent_o rfl (ok_move rfl) ?_
          refine ent_o rfl (ok_add rfl rfl (by omega) (by omega)) ?_
          refine ent_o rfl (ok_assign rfl) ?_
          refine ent_nil ?_
          refine ent_again (s := (i)) (i + 1) ⟨(by first | rfl | assumption | omega | (simp_all; done) | grind), (by first | rfl | assumption | omega | (simp_all; done) | grind), (hErr_succ h0 h48 hp he)⟩ (by first | omega | (dsimp only; omega)) (ent_rep ⟨rfl, rfl, rfl, slot_av (av_int (show (2 * n + (h.length : Int) + (c.length : Int) + hArcs (h.take i.toNat)) + (↑((ix (0, []) h i).2).length : Int) = 2 * n + (h.length : Int) + (c.length : Int) + hArcs (h.take (i + 1).toNat) by rw [hArcs_succ h0 h48]; simp only [ix]; omega)), rfl, trivial⟩ rfl)
    · have hn : 1 ≤ n ∧ n ≤ 64 := by omega
      have hkk := hArcs_le hn.2 hp
      refine ent_exit ?_
      refine ent_k hK6 ?_
      refine ent_seq fun K18 hK18 => ?_
      refine ent_region ?_
      refine ent_o rfl (ok_move rfl) ?_
      refine ent_o rfl (ok_move rfl) ?_
      refine ent_o rfl (ok_call (list_ok n c (-1)) rfl) ?_
      refine ent_o rfl (ok_assign rfl) ?_
      refine ent_nil ?_
      refine ent_k hK18 ?_
      refine ent_seq fun K19 hK19 => ?_
      refine ent_seq fun K20 hK20 => ?_
      refine ent_region ?_
      refine ent_o rfl (ok_move rfl) ?_
      refine ent_o rfl (ok_neq rfl rfl) ?_
      refine ent_nil ?_
      refine ent_k hK20 ?_
      refine ent_condD rfl (fun h93 => ?_) (fun h93 => ?_)
      · refine ent_seq fun K21 hK21 => ?_
        refine ent_region ?_
        refine ent_o rfl (ok_move rfl) ?_
        refine ent_o rfl (ok_assign rfl) ?_
        refine ent_nil ?_
        refine ent_k hK21 ?_
        refine ent_ret ?_
        exact retR1 (.inr rfl) Try.results20 (resr_tmp (res_cv rfl (cv_int (by rw [List.take_of_length_le (by omega)] at hp; rw [gErr, if_neg hb, if_pos hp, if_neg h93]))))
      · have hh0 : hErr n h = 0 := by rw [List.take_of_length_le (by omega)] at hp; exact hp
        refine ent_skip ?_
        refine ent_k hK19 ?_
        refine ent_seq fun K22 hK22 => ?_
        refine ent_seq fun K23 hK23 => ?_
        refine ent_cut (⟨[(105, aBool (decide ((256 < ((2 * (n + (↑h.length : Int))) + 2)) ∨ (1024 < (2 * n + (h.length : Int) + (c.length : Int) + hArcs (h.take i.toNat))))))], []⟩) ?_ ?_
        · refine ent_region ?_
          refine ent_o rfl (ok_move rfl) ?_
          refine ent_o rfl (ok_move rfl) ?_
          refine ent_o rfl (ok_len rfl Try.runUnderlying28 rfl) ?_
          refine ent_o rfl (ok_add rfl rfl (by omega) (by omega)) ?_
          refine ent_o rfl (ok_mul rfl rfl (by omega) (by omega)) ?_
          refine ent_o rfl (ok_add rfl rfl (by omega) (by omega)) ?_
          refine ent_o rfl (ok_gtr rfl rfl) ?_
          refine ent_o rfl (ok_move rfl) ?_
          refine ent_guardXDf rfl rfl rfl rfl (fun hg102 => ?_) (fun hg102 => ?_)
          · refine ent_o rfl (ok_move rfl) ?_
            refine ent_guardXT rfl rfl rfl rfl (decide_eq_false hg102) ?_
            refine ent_o rfl (ok_gtr rfl rfl) ?_
            refine ent_o rfl (ok_pickF rfl (decide_eq_false hg102) rfl) ?_
            refine ent_nil ?_
            exact ent_rep ⟨slot_bool (dq_Q ((or_iff_right hg102).trans Iff.rfl)), trivial⟩ rfl
          · refine ent_guardXF rfl rfl rfl rfl (decide_eq_true hg102) ?_
            refine ent_o rfl (ok_pickT rfl (decide_eq_true hg102) rfl) ?_
            refine ent_nil ?_
            exact ent_rep ⟨slot_bool (dq_T rfl (Or.inl hg102)), trivial⟩ rfl
        refine ent_k hK23 ?_
        refine ent_condD rfl (fun h105 => ?_) (fun h105 => ?_)
        · refine ent_seq fun K24 hK24 => ?_
          refine ent_region ?_
          refine ent_o rfl (ok_assign rfl) ?_
          refine ent_nil ?_
          refine ent_k hK24 ?_
          refine ent_ret ?_
          exact retR1 (.inr rfl) Try.results20 (resr_tmp (res_cv rfl (cv_int (by rw [List.take_of_length_le (by omega)] at h105; rw [gErr, if_neg hb, if_pos hh0, if_pos (Classical.not_not.1 h93), if_pos (show tooBig n h c from h105)]))))
        · refine ent_skip ?_
          refine ent_k hK22 ?_
          refine ent_seq fun K25 hK25 => ?_
          refine ent_region ?_
          refine ent_o rfl (ok_assign rfl) ?_
          refine ent_nil ?_
          refine ent_k hK25 ?_
          refine ent_ret ?_
          exact retR1 (.inr rfl) Try.results20 (resr_tmp (res_cv rfl (cv_int (by rw [List.take_of_length_le (by omega)] at h105; rw [gErr, if_neg hb, if_pos hh0, if_pos (Classical.not_not.1 h93), if_neg (show ¬ tooBig n h c from h105)]))))

theorem RefGraph_ok (n a b : Int) (h : List Fl) (c : List Int) (hg : GOk n a b h c) (hh : h.length ≤ 130) (hc : c.length ≤ 100) : Ctr Try.prog 22 [aInt n, aInt a, aInt b, aSl 2 true aFl h, aSl 1 false aInt c] (aAgg [aInt (netV n a b h c), aSl 3 true aArc (netA n a b h c)]) := by
  have hb := hg.rng
  have hp := hg.hist
  have hcl := hg.coll
  have hbig := hg.big
  unfold rngBad at hb
  have hn : 1 ≤ n ∧ n ≤ 64 := by omega
  have hE : gErr n a b h c = 0 := gErr_zero.2 hg
  refine ctr_of Try.call22 Try.func22 rfl rfl ?_
  intro w O
  refine ent_len 3 rfl (fun hlen3 => ?_)
  refine ent_len 4 rfl (fun hlen4 => ?_)
  refine ent_seq fun K1 hK1 => ?_
  refine ent_region ?_
  refine ent_alloc (z := .agg #[.int .i64 0, .slice none 0 0]) [aInt 0, aEx (.slice none 0 0)] rfl zv32 rfl zc32 (fun b10_1 => ?_)
  refine ent_nil ?_
  refine ent_k hK1 ?_
  refine ent_seq fun K2 hK2 => ?_
  refine ent_region ?_
  refine ent_o rfl (ok_move rfl) ?_
  refine ent_o rfl (ok_move rfl) ?_
  refine ent_o rfl (ok_len rfl Try.runUnderlying28 rfl) ?_
  refine ent_o rfl (ok_add rfl rfl (by omega) (by omega)) ?_
  refine ent_o rfl (ok_mul rfl rfl (by omega) (by omega)) ?_
  refine ent_o rfl (ok_add rfl rfl (by omega) (by omega)) ?_
  refine ent_o rfl (ok_assign rfl) ?_
  refine ent_nil ?_
  refine ent_k hK2 ?_
  refine ent_seq fun K3 hK3 => ?_
  refine ent_region ?_
  refine ent_o rfl (ok_move rfl) ?_
  refine ent_o rfl (ok_add rfl rfl (by omega) (by omega)) ?_
  refine ent_o rfl (ok_build st32 (As := [aInt 0, aEx (.slice none 0 0)]) z32 (⟨0, 1, rfl, .inl ⟨rfl, _, rfl, (one_int _), rfl, rfl⟩⟩)) ?_
  refine ent_alloc (z := .agg #[.int .i64 0, .slice none 0 0]) [aInt 0, aEx (.slice none 0 0)] rfl zv32 rfl zc32 (fun b12_2 => ?_)
  refine ent_storeBS (k := 0) Try.sizeOf32 rfl rfl rfl (AllOne.mem ⟨(one_int _), (one_ex rfl), trivial⟩) rfl rfl ?_
  show Ent _ (⟨_, [oBox b12_2 32 [aInt (((2 * (n + (↑h.length : Int))) + 1) + 1), aEx (.slice none 0 0)], oBox b10_1 32 [aInt 0, aEx (.slice none 0 0)]]⟩ : St) _
  refine ent_nil ?_
  refine ent_k hK3 ?_
  refine ent_seq fun K4 hK4 => ?_
  refine ent_region ?_
  refine ent_o rfl (ok_move rfl) ?_
  refine ent_make aInt 0 rfl vt29 rfl rfl (by omega) (by omega) (by omega) (fun _ _ => rfl) (AllV.mem ⟨rfl, trivial⟩) (fun b29_3 => ?_)
  refine ent_o rfl (ok_assign rfl) ?_
  refine ent_nil ?_
  refine ent_k hK4 ?_
  refine ent_seq fun K5 hK5 => ?_
  refine ent_seq fun K6 hK6 => ?_
  refine ent_region ?_
  refine ent_o rfl (ok_assign rfl) ?_
  refine ent_nil ?_
  refine ent_k hK6 ?_
  refine ent_block ?_
  refine ent_open 89 3 true aArc (fun h => by cases h) ?_
  refine ent_loop (fun (ss : Int × Option Nat × Nat) => match ss with | (u, rr5, cc5) => (⟨[(0, aInt n), (1, aInt a), (2, aInt b), (3, aSl 2 true aFl h), (4, aSl 1 false aInt c), (10, aEx (.pointer (some ⟨b10_1, 0, none⟩))), (11, aInt ((2 * (n + (↑h.length : Int))) + 1)), (12, aEx (.pointer (some ⟨b12_2, 0, none⟩))), (13, aEx (vec (some b29_3) ((n).toNat) ((n).toNat))), (14, aInt u)], [oVec rr5 cc5 89 3 true aArc (mapR arcA u), oVec (some b29_3) ((n).toNat) 3 1 false aInt (fillR id 0 n u), oBox b12_2 32 [aInt (((2 * (n + (↑h.length : Int))) + 1) + 1), aEx (vec rr5 ((mapR arcA u).length) cc5)], oBox b10_1 32 [aInt 0, aEx (.slice none 0 0)]]⟩ : St)) (fun (ss : Int × Option Nat × Nat) => match ss with | (u, rr5, cc5) => (0 ≤ u) ∧ (u ≤ n)) (fun (ss : Int × Option Nat × Nat) => match ss with | (u, rr5, cc5) => (n - u).toNat) (0, none, 0) ⟨(by first | rfl | assumption | omega | (simp_all; done) | grind), (by first | rfl | assumption | omega | (simp_all; done) | grind)⟩ (ent_rep ⟨rfl, rfl, rfl, rfl, rfl, rfl, rfl, rfl, rfl, slot_av (av_int (show 0 = (0 : Int) by first | rfl | assumption | omega | (simp_all; done) | grind)), trivial⟩ (own_cons (own_vec (show mapR arcA (0 : Int) = [] by first | rfl | exact fillR_zero _ _ _)) (own_cons (own_vec (show fillR id 0 n (0 : Int) = List.replicate ((n).toNat) 0 by first | rfl | exact fillR_zero _ _ _)) (own_cons (own_box (av_cons rfl (av_cons ((by first | rfl | assumption | omega | (simp_all; done) | grind)) (rfl)))) (rfl))))) ?_
  rintro ⟨u, rr5, cc5⟩ ⟨h0, h1⟩
  show Ent _ (⟨[(0, aInt n), (1, aInt a), (2, aInt b), (3, aSl 2 true aFl h), (4, aSl 1 false aInt c), (10, aEx (.pointer (some ⟨b10_1, 0, none⟩))), (11, aInt ((2 * (n + (↑h.length : Int))) + 1)), (12, aEx (.pointer (some ⟨b12_2, 0, none⟩))), (13, aEx (vec (some b29_3) ((n).toNat) ((n).toNat))), (14, aInt u)], [oVec rr5 cc5 89 3 true aArc (mapR arcA u), oVec (some b29_3) ((n).toNat) 3 1 false aInt (fillR id 0 n u), oBox b12_2 32 [aInt (((2 * (n + (↑h.length : Int))) + 1) + 1), aEx (vec rr5 ((mapR arcA u).length) cc5)], oBox b10_1 32 [aInt 0, aEx (.slice none 0 0)]]⟩ : St) _
  have hlf := length_fillR id 0 h0 h1
  refine ent_seq fun K7 hK7 => ?_
  refine ent_seq fun K8 hK8 => ?_
  refine ent_region ?_
  refine ent_o rfl (ok_move rfl) ?_
  refine ent_o rfl (ok_move rfl) ?_
  refine ent_o rfl (ok_lss rfl rfl) ?_
  refine ent_nil ?_
  refine ent_k hK8 ?_
  refine ent_condD rfl (fun h32 => ?_) (fun h32 => ?_)
  · refine ent_skip ?_
    refine ent_k hK7 ?_
    refine ent_seq fun K9 hK9 => ?_
    refine ent_block ?_
    refine ent_seq fun K10 hK10 => ?_
    refine ent_region ?_
    refine ent_o rfl (ok_move rfl) ?_
    refine ent_o rfl (ok_move rfl) ?_
    refine ent_o rfl (ok_move rfl) ?_
    refine ent_o rfl (ok_indexV sl29 rfl rfl (by omega) (by omega)) ?_
    refine ent_storeV (k := 1) (z := u) ti3 rfl rfl rfl (elem_one (one_int _)) (by omega) (by omega) ?_
    refine ent_nil ?_
    refine ent_k hK10 ?_
    refine ent_region ?_
    refine ent_o rfl (ok_fieldAddrEx Try.runUnderlying32 rfl Try.sizeOf30 (by decide) rfl) ?_
    refine ent_o rfl (ok_loadB (k := 2) Try.isAgg30 rfl rfl rfl) ?_
    refine ent_o rfl (ok_move rfl) ?_
    refine ent_o rfl (ok_mul rfl rfl (by omega) (by omega)) ?_
    refine ent_o rfl (ok_add rfl rfl (by omega) (by omega)) ?_
    refine ent_o rfl (ok_build st89 (As := [aInt 0, aInt 0, aInt 0]) z89 (⟨0, 1, rfl, .inl ⟨rfl, _, rfl, (one_int _), rfl, ⟨1, 1, rfl, .inl ⟨rfl, _, rfl, (one_int _), rfl, ⟨2, 1, rfl, .inl ⟨rfl, _, rfl, (one_int _), rfl, rfl⟩⟩⟩⟩⟩⟩)) ?_
    refine ent_appendL (k := 0) (enc := aArc) (y := (0, (2 * u) + 1, 1099511627776)) rfl rfl vt30 rfl rfl (by first | rfl | assumption | (simp; done) | (simp_all; done) | omega) rfl ((elem_agg (AllOne.mem ⟨(one_int _), (one_int _), (one_int _), trivial⟩))) (by first | omega | (simp only [List.length_append, List.length_cons, List.length_nil]; omega) | (simp; omega)) (by first | omega | (simp only [List.length_append, List.length_cons, List.length_nil]; omega) | (simp; omega)) (by decide) (fun b46_6 c46_6 => ?_)
    refine ent_o rfl (ok_fieldAddrEx Try.runUnderlying32 rfl Try.sizeOf30 (by decide) rfl) ?_
    refine ent_storeB (k := 2) Try.sizeOf30 rfl rfl rfl (one_ex rfl) rfl ?_
    refine ent_nil ?_
    refine ent_k hK9 ?_
    refine ent_region ?_
    refine ent_o rfl (ok_move rfl) ?_
    refine ent_o rfl (ok_add rfl rfl (by omega) (by omega)) ?_
    refine ent_o rfl (ok_assign rfl) ?_
    refine ent_nil ?_
    refine ent_again (s := (u, rr5, cc5)) (u + 1, (some b46_6), c46_6) ⟨(by first | rfl | assumption | omega | (simp_all; done) | grind), (by first | rfl | assumption | omega | (simp_all; done) | grind)⟩ (by first | omega | (dsimp only; omega)) (ent_rep ⟨rfl, rfl, rfl, rfl, rfl, rfl, rfl, rfl, rfl, rfl, trivial⟩ (own_cons (own_vec (show mapR arcA (u + 1) = (mapR arcA u) ++ [(0, (2 * u) + 1, 1099511627776)] by first | exact mapR_succ arcA h0 | exact (fillR_set id 0 h0 h32).symm)) (own_cons (own_vec (show fillR id 0 n (u + 1) = List.set (fillR id 0 n u) (u).toNat u by first | exact mapR_succ arcA h0 | exact (fillR_set id 0 h0 h32).symm)) (own_cons (own_box (av_cons rfl (av_cons (av_vec (congrArg List.length (show mapR arcA (u + 1) = (mapR arcA u) ++ [(0, (2 * u) + 1, 1099511627776)] by first | exact mapR_succ arcA h0 | exact (fillR_set id 0 h0 h32).symm))) (rfl)))) (rfl)))))
  · refine ent_exit ?_
    refine ent_k hK5 ?_
    refine ent_seq fun K11 hK11 => ?_
    refine ent_seq fun K12 hK12 => ?_
    refine ent_region ?_
    refine ent_o rfl (ok_assign rfl) ?_
    refine ent_nil ?_
    refine ent_k hK12 ?_
    refine ent_block ?_
    refine ent_loop (fun (ss : Int × Option Nat × Nat) => match ss with | (v, rr7, cc7) => (⟨[(0, aInt n), (1, aInt a), (2, aInt b), (3, aSl 2 true aFl h), (4, aSl 1 false aInt c), (10, aEx (.pointer (some ⟨b10_1, 0, none⟩))), (11, aInt ((2 * (n + (↑h.length : Int))) + 1)), (12, aEx (.pointer (some ⟨b12_2, 0, none⟩))), (13, aEx (vec (some b29_3) ((n).toNat) ((n).toNat))), (15, aInt v)], [oVec rr7 cc7 89 3 true aArc (mapR arcA n ++ mapR (arcB a) v), oVec (some b29_3) ((n).toNat) 3 1 false aInt (fillR id 0 n u), oBox b12_2 32 [aInt (((2 * (n + (↑h.length : Int))) + 1) + 1), aEx (vec rr7 ((mapR arcA n ++ mapR (arcB a) v).length) cc7)], oBox b10_1 32 [aInt 0, aEx (.slice none 0 0)]]⟩ : St)) (fun (ss : Int × Option Nat × Nat) => match ss with | (v, rr7, cc7) => (0 ≤ v) ∧ (v ≤ n + h.length)) (fun (ss : Int × Option Nat × Nat) => match ss with | (v, rr7, cc7) => (n + h.length - v).toNat) (0, rr5, cc5) ⟨(by first | rfl | assumption | omega | (simp_all; done) | grind), (by first | rfl | assumption | omega | (simp_all; done) | grind)⟩ (ent_rep ⟨rfl, rfl, rfl, rfl, rfl, rfl, rfl, rfl, rfl, slot_av (av_int (show 0 = (0 : Int) by first | rfl | assumption | omega | (simp_all; done) | grind)), trivial⟩ (own_cons (own_vec (show mapR arcA n ++ mapR (arcB a) (0 : Int) = mapR arcA u by first | rfl | (rw [show u = n by omega]; simp [mapR_zero]))) (own_cons (rfl) (own_cons (own_box (av_cons rfl (av_cons (av_vec (congrArg List.length (show mapR arcA n ++ mapR (arcB a) (0 : Int) = mapR arcA u by first | rfl | (rw [show u = n by omega]; simp [mapR_zero])))) (rfl)))) (rfl))))) ?_
    rintro ⟨v, rr7, cc7⟩ ⟨h0, h1⟩
    show Ent _ (⟨[(0, aInt n), (1, aInt a), (2, aInt b), (3, aSl 2 true aFl h), (4, aSl 1 false aInt c), (10, aEx (.pointer (some ⟨b10_1, 0, none⟩))), (11, aInt ((2 * (n + (↑h.length : Int))) + 1)), (12, aEx (.pointer (some ⟨b12_2, 0, none⟩))), (13, aEx (vec (some b29_3) ((n).toNat) ((n).toNat))), (15, aInt v)], [oVec rr7 cc7 89 3 true aArc (mapR arcA n ++ mapR (arcB a) v), oVec (some b29_3) ((n).toNat) 3 1 false aInt (fillR id 0 n u), oBox b12_2 32 [aInt (((2 * (n + (↑h.length : Int))) + 1) + 1), aEx (vec rr7 ((mapR arcA n ++ mapR (arcB a) v).length) cc7)], oBox b10_1 32 [aInt 0, aEx (.slice none 0 0)]]⟩ : St) _
    have hla := length_mapR arcA n
    have hlb := length_mapR (arcB a) (n + h.length)
    refine ent_seq fun K13 hK13 => ?_
    refine ent_seq fun K14 hK14 => ?_
    refine ent_region ?_
    refine ent_o rfl (ok_move rfl) ?_
    refine ent_o rfl (ok_move rfl) ?_
    refine ent_o rfl (ok_move rfl) ?_
    refine ent_o rfl (ok_len rfl Try.runUnderlying28 rfl) ?_
    refine ent_o rfl (ok_add rfl rfl (by omega) (by omega)) ?_
    refine ent_o rfl (ok_lss rfl rfl) ?_
    refine ent_nil ?_
    refine ent_k hK14 ?_
    refine ent_condD rfl (fun h53 => ?_) (fun h53 => ?_)
    · refine ent_skip ?_
      refine ent_k hK13 ?_
      refine ent_seq fun K15 hK15 => ?_
      refine ent_block ?_
      refine ent_region ?_
      refine ent_o rfl (ok_fieldAddrEx Try.runUnderlying32 rfl Try.sizeOf30 (by decide) rfl) ?_
      refine ent_o rfl (ok_loadB (k := 2) Try.isAgg30 rfl rfl rfl) ?_
      refine ent_o rfl (ok_move rfl) ?_
      refine ent_o rfl (ok_mul rfl rfl (by omega) (by omega)) ?_
      refine ent_o rfl (ok_add rfl rfl (by omega) (by omega)) ?_
      refine ent_o rfl (ok_move rfl) ?_
      refine ent_o rfl (ok_mul rfl rfl (by omega) (by omega)) ?_
      refine ent_o rfl (ok_add rfl rfl (by omega) (by omega)) ?_
      refine ent_o rfl (ok_move rfl) ?_
      refine ent_o rfl (ok_build st89 (As := [aInt 0, aInt 0, aInt 0]) z89 (⟨0, 1, rfl, .inl ⟨rfl, _, rfl, (one_int _), rfl, ⟨1, 1, rfl, .inl ⟨rfl, _, rfl, (one_int _), rfl, ⟨2, 1, rfl, .inl ⟨rfl, _, rfl, (one_int _), rfl, rfl⟩⟩⟩⟩⟩⟩)) ?_
      refine ent_appendL (k := 0) (enc := aArc) (y := ((2 * v) + 1, (2 * v) + 2, a)) rfl rfl vt30 rfl rfl (by first | rfl | assumption | (simp; done) | (simp_all; done) | omega) rfl ((elem_agg (AllOne.mem ⟨(one_int _), (one_int _), (one_int _), trivial⟩))) (by first | omega | (simp only [List.length_append, List.length_cons, List.length_nil]; omega) | (simp; omega)) (by first | omega | (simp only [List.length_append, List.length_cons, List.length_nil]; omega) | (simp; omega)) (by decide) (fun b67_8 c67_8 => ?_)
      refine ent_o rfl (ok_fieldAddrEx Try.runUnderlying32 rfl Try.sizeOf30 (by decide) rfl) ?_
      refine ent_storeB (k := 2) Try.sizeOf30 rfl rfl rfl (one_ex rfl) rfl ?_
      refine ent_nil ?_
      refine ent_k hK15 ?_
      refine ent_region ?_
      refine ent_o rfl (ok_move rfl) ?_
      refine ent_o rfl (ok_add rfl rfl (by omega) (by omega)) ?_
      refine ent_o rfl (ok_assign rfl) ?_
      refine ent_nil ?_
      refine ent_again (s := (v, rr7, cc7)) (v + 1, (some b67_8), c67_8) ⟨(by first | rfl | assumption | omega | (simp_all; done) | grind), (by first | rfl | assumption | omega | (simp_all; done) | grind)⟩ (by first | omega | (dsimp only; omega)) (ent_rep ⟨rfl, rfl, rfl, rfl, rfl, rfl, rfl, rfl, rfl, rfl, trivial⟩ (own_cons (own_vec (show mapR arcA n ++ mapR (arcB a) (v + 1) = (mapR arcA n ++ mapR (arcB a) v) ++ [((2 * v) + 1, (2 * v) + 2, a)] by first | rfl | (rw [mapR_succ (arcB a) h0, ← List.append_assoc]; rfl))) (own_cons (rfl) (own_cons (own_box (av_cons rfl (av_cons (av_vec (congrArg List.length (show mapR arcA n ++ mapR (arcB a) (v + 1) = (mapR arcA n ++ mapR (arcB a) v) ++ [((2 * v) + 1, (2 * v) + 2, a)] by first | rfl | (rw [mapR_succ (arcB a) h0, ← List.append_assoc]; rfl)))) (rfl)))) (rfl)))))
    · refine ent_exit ?_
      refine ent_k hK11 ?_
      refine ent_seq fun K16 hK16 => ?_
      refine ent_seq fun K17 hK17 => ?_
      refine ent_region ?_
      refine ent_o rfl (ok_assign rfl) ?_
      refine ent_nil ?_
      refine ent_k hK17 ?_
      refine ent_block ?_
      refine ent_loop (fun (ss : Int × Option Nat × Nat) => match ss with | (i, rr9, cc9) => (⟨[(0, aInt n), (2, aInt b), (3, aSl 2 true aFl h), (4, aSl 1 false aInt c), (10, aEx (.pointer (some ⟨b10_1, 0, none⟩))), (11, aInt ((2 * (n + (↑h.length : Int))) + 1)), (12, aEx (.pointer (some ⟨b12_2, 0, none⟩))), (13, aEx (vec (some b29_3) ((n).toNat) ((n).toNat))), (16, aInt i)], [oVec rr9 cc9 89 3 true aArc (gHead n a h ++ histArcs n b h i.toNat), oVec (some b29_3) ((n).toNat) 3 1 false aInt (lastN n h i.toNat), oBox b12_2 32 [aInt (((2 * (n + (↑h.length : Int))) + 1) + 1), aEx (vec rr9 ((gHead n a h ++ histArcs n b h i.toNat).length) cc9)], oBox b10_1 32 [aInt 0, aEx (.slice none 0 0)]]⟩ : St)) (fun (ss : Int × Option Nat × Nat) => match ss with | (i, rr9, cc9) => (0 ≤ i) ∧ (i ≤ h.length)) (fun (ss : Int × Option Nat × Nat) => match ss with | (i, rr9, cc9) => (h.length - i).toNat) (0, rr7, cc7) ⟨(by first | rfl | assumption | omega | (simp_all; done) | grind), (by first | rfl | assumption | omega | (simp_all; done) | grind)⟩ (ent_rep ⟨rfl, rfl, rfl, rfl, rfl, rfl, rfl, rfl, slot_av (av_int (show 0 = (0 : Int) by first | rfl | assumption | omega | (simp_all; done) | grind)), trivial⟩ (own_cons (own_vec (show gHead n a h ++ histArcs n b h (0 : Int).toNat = mapR arcA n ++ mapR (arcB a) v by first | (rw [show v = n + h.length by omega]; simp [gHead, histArcs]; done) | (rw [fillR_all _ _ (by omega), show u = n by omega]; rfl))) (own_cons (own_vec (show lastN n h (0 : Int).toNat = fillR id 0 n u by first | (rw [show v = n + h.length by omega]; simp [gHead, histArcs]; done) | (rw [fillR_all _ _ (by omega), show u = n by omega]; rfl))) (own_cons (own_box (av_cons rfl (av_cons (av_vec (congrArg List.length (show gHead n a h ++ histArcs n b h (0 : Int).toNat = mapR arcA n ++ mapR (arcB a) v by first | (rw [show v = n + h.length by omega]; simp [gHead, histArcs]; done) | (rw [fillR_all _ _ (by omega), show u = n by omega]; rfl)))) (rfl)))) (rfl))))) ?_
      rintro ⟨i, rr9, cc9⟩ ⟨h0, h1⟩
      show Ent _ (⟨[(0, aInt n), (2, aInt b), (3, aSl 2 true aFl h), (4, aSl 1 false aInt c), (10, aEx (.pointer (some ⟨b10_1, 0, none⟩))), (11, aInt ((2 * (n + (↑h.length : Int))) + 1)), (12, aEx (.pointer (some ⟨b12_2, 0, none⟩))), (13, aEx (vec (some b29_3) ((n).toNat) ((n).toNat))), (16, aInt i)], [oVec rr9 cc9 89 3 true aArc (gHead n a h ++ histArcs n b h i.toNat), oVec (some b29_3) ((n).toNat) 3 1 false aInt (lastN n h i.toNat), oBox b12_2 32 [aInt (((2 * (n + (↑h.length : Int))) + 1) + 1), aEx (vec rr9 ((gHead n a h ++ histArcs n b h i.toNat).length) cc9)], oBox b10_1 32 [aInt 0, aEx (.slice none 0 0)]]⟩ : St) _
      have hll := length_lastN n h i.toNat
      refine ent_seq fun K18 hK18 => ?_
      refine ent_seq fun K19 hK19 => ?_
      refine ent_region ?_
      refine ent_o rfl (ok_move rfl) ?_
      refine ent_o rfl (ok_move rfl) ?_
      refine ent_o rfl (ok_len rfl Try.runUnderlying28 rfl) ?_
      refine ent_o rfl (ok_lss rfl rfl) ?_
      refine ent_nil ?_
      refine ent_k hK19 ?_
      refine ent_condD rfl (fun h72 => ?_) (fun h72 => ?_)
      · refine ent_skip ?_
        refine ent_k hK18 ?_
        refine ent_seq fun K20 hK20 => ?_
        refine ent_block ?_
        refine ent_seq fun K21 hK21 => ?_
        refine ent_seq fun K22 hK22 => ?_
        refine ent_region ?_
        refine ent_o rfl (ok_assign rfl) ?_
        refine ent_nil ?_
        refine ent_k hK22 ?_
        refine ent_block ?_
        have hel := flErr_zero (hErr_elem hp _ (ix_mem (0, []) h h0 h72))
        have hcap := take_arcs_lt2 hbig hn.1 h0 h72 a b
        rw [List.length_append] at hcap
        refine ent_loop (fun (ss : Int × Option Nat × Nat) => match ss with | (j, rr10, cc10) => (⟨[(0, aInt n), (2, aInt b), (3, aSl 2 true aFl h), (4, aSl 1 false aInt c), (10, aEx (.pointer (some ⟨b10_1, 0, none⟩))), (11, aInt ((2 * (n + (↑h.length : Int))) + 1)), (12, aEx (.pointer (some ⟨b12_2, 0, none⟩))), (13, aEx (vec (some b29_3) ((n).toNat) ((n).toNat))), (16, aInt i), (17, aInt j)], [oVec rr10 cc10 89 3 true aArc ((gHead n a h ++ histArcs n b h i.toNat) ++ mapT (arcC n b (lastN n h i.toNat) i) (ix (0, []) h i).2 j), oVec (some b29_3) ((n).toNat) 3 1 false aInt (lastN n h i.toNat), oBox b12_2 32 [aInt (((2 * (n + (↑h.length : Int))) + 1) + 1), aEx (vec rr10 (((gHead n a h ++ histArcs n b h i.toNat) ++ mapT (arcC n b (lastN n h i.toNat) i) (ix (0, []) h i).2 j).length) cc10)], oBox b10_1 32 [aInt 0, aEx (.slice none 0 0)]]⟩ : St)) (fun (ss : Int × Option Nat × Nat) => match ss with | (j, rr10, cc10) => (0 ≤ j) ∧ (j ≤ (ix (0, []) h i).2.length)) (fun (ss : Int × Option Nat × Nat) => match ss with | (j, rr10, cc10) => ((ix (0, []) h i).2.length - j).toNat) (0, rr9, cc9) ⟨(by first | rfl | assumption | omega | (simp_all; done) | grind), (by first | rfl | assumption | omega | (simp_all; done) | grind)⟩ (ent_rep ⟨rfl, rfl, rfl, rfl, rfl, rfl, rfl, rfl, rfl, slot_av (av_int (show 0 = (0 : Int) by first | rfl | assumption | omega | (simp_all; done) | grind)), trivial⟩ (own_cons (own_vec (show (gHead n a h ++ histArcs n b h i.toNat) ++ mapT (arcC n b (lastN n h i.toNat) i) (ix (0, []) h i).2 (0 : Int) = gHead n a h ++ histArcs n b h i.toNat by first | rfl | simp [mapT_zero])) (own_cons (rfl) (own_cons (own_box (av_cons rfl (av_cons (av_vec (congrArg List.length (show (gHead n a h ++ histArcs n b h i.toNat) ++ mapT (arcC n b (lastN n h i.toNat) i) (ix (0, []) h i).2 (0 : Int) = gHead n a h ++ histArcs n b h i.toNat by first | rfl | simp [mapT_zero]))) (rfl)))) (rfl))))) ?_
        rintro ⟨j, rr10, cc10⟩ ⟨j0, j1⟩
        show Ent _ (⟨[(0, aInt n), (2, aInt b), (3, aSl 2 true aFl h), (4, aSl 1 false aInt c), (10, aEx (.pointer (some ⟨b10_1, 0, none⟩))), (11, aInt ((2 * (n + (↑h.length : Int))) + 1)), (12, aEx (.pointer (some ⟨b12_2, 0, none⟩))), (13, aEx (vec (some b29_3) ((n).toNat) ((n).toNat))), (16, aInt i), (17, aInt j)], [oVec rr10 cc10 89 3 true aArc ((gHead n a h ++ histArcs n b h i.toNat) ++ mapT (arcC n b (lastN n h i.toNat) i) (ix (0, []) h i).2 j), oVec (some b29_3) ((n).toNat) 3 1 false aInt (lastN n h i.toNat), oBox b12_2 32 [aInt (((2 * (n + (↑h.length : Int))) + 1) + 1), aEx (vec rr10 (((gHead n a h ++ histArcs n b h i.toNat) ++ mapT (arcC n b (lastN n h i.toNat) i) (ix (0, []) h i).2 j).length) cc10)], oBox b10_1 32 [aInt 0, aEx (.slice none 0 0)]]⟩ : St) _
        have hlT := length_mapT (arcC n b (lastN n h i.toNat) i) (ix (0, []) h i).2 j1
        refine ent_seq fun K23 hK23 => ?_
        refine ent_seq fun K24 hK24 => ?_
        refine ent_region ?_
        refine ent_o rfl (ok_move rfl) ?_
        refine ent_o rfl (ok_move rfl) ?_
        refine ent_o rfl (ok_move rfl) ?_
        refine ent_o rfl (ok_index (0, []) sl28 rfl rfl (by omega) (by omega)) ?_
        refine ent_o rfl (ok_fieldAddr1 Try.runUnderlying40 rfl Try.sizeOf29 rfl rfl) ?_
        refine ent_o rfl (ok_load ti29 rfl) ?_
        refine ent_o rfl (ok_len rfl Try.runUnderlying29 rfl) ?_
        refine ent_o rfl (ok_lss rfl rfl) ?_
        refine ent_nil ?_
        refine ent_k hK24 ?_
        refine ent_condD rfl (fun h82 => ?_) (fun h82 => ?_)
        · have hm := lstErr_mem hel.2.2 j0 h82
          have hlx := ix_lastN (h := h) (i := i) hm.1 hm.2 h0
          refine ent_skip ?_
          refine ent_k hK23 ?_
          refine ent_seq fun K25 hK25 => ?_
          refine ent_block ?_
          refine ent_draw 23 mixed (by kernel_rfl) (by kernel_rfl) (by kernel_rfl) ?_
          refine dw_o rfl (ok_fieldAddrEx Try.runUnderlying32 rfl Try.sizeOf30 (by decide) rfl) ?_
          refine dw_o rfl (ok_loadB (k := 2) Try.isAgg30 rfl rfl rfl) ?_
          refine dw_o rfl (ok_move rfl) ?_
          refine dw_o rfl (ok_move rfl) ?_
          refine dw_o rfl (ok_move rfl) ?_
          refine dw_o rfl (ok_index (0, []) sl28 rfl rfl (by omega) (by omega)) ?_
          refine dw_o rfl (ok_fieldAddr1 Try.runUnderlying40 rfl Try.sizeOf29 rfl rfl) ?_
          refine dw_o rfl (ok_load ti29 rfl) ?_
          refine dw_o rfl (ok_move rfl) ?_
          refine dw_o rfl (ok_index 0 sl29 rfl rfl (by omega) (by omega)) ?_
          refine dw_o rfl (ok_load ti3 rfl) ?_
          refine dw_o rfl (ok_indexV sl29 rfl rfl (by omega) (by omega)) ?_
          refine dw_o rfl (ok_loadV (k := 1) 0 ti3 rfl rfl (by omega) (by omega)) ?_
          refine dw_o rfl (ok_mul rfl rfl (by omega) (by omega)) ?_
          refine dw_o rfl (ok_add rfl rfl (by omega) (by omega)) ?_
          refine dw_o rfl (ok_move rfl) ?_
          refine dw_o rfl (ok_move rfl) ?_
          refine dw_o rfl (ok_add rfl rfl (by omega) (by omega)) ?_
          refine dw_o rfl (ok_mul rfl rfl (by omega) (by omega)) ?_
          refine dw_o rfl (ok_add rfl rfl (by omega) (by omega)) ?_
          refine dw_o rfl (ok_move rfl) ?_
          refine dw_o rfl (ok_build st89 (As := [aInt 0, aInt 0, aInt 0]) z89 (⟨0, 1, rfl, .inl ⟨rfl, _, rfl, (one_int _), rfl, ⟨1, 1, rfl, .inl ⟨rfl, _, rfl, (one_int _), rfl, ⟨2, 1, rfl, .inl ⟨rfl, _, rfl, (one_int _), rfl, rfl⟩⟩⟩⟩⟩⟩)) ?_
          refine dw_o rfl (ok_build1 (enc := aArc) (y := ((2 * (ix 0 (lastN n h i.toNat) (ix 0 ((ix (0, []) h i).2) j))) + 2, (2 * (n + i)) + 1, b)) vt30 rfl (elem_agg (AllOne.mem ⟨(one_int _), (one_int _), (one_int _), trivial⟩)) (by decide)) ?_
          refine dw_nil ?_
          refine ent_appendO (k := 0) (enc := aArc) (y := ((2 * (ix 0 (lastN n h i.toNat) (ix 0 ((ix (0, []) h i).2) j))) + 2, (2 * (n + i)) + 1, b)) rfl vt30 rfl rfl (by first | rfl | assumption | (simp; done) | (simp_all; done) | omega) rfl (elem_agg (AllOne.mem ⟨(one_int _), (one_int _), (one_int _), trivial⟩)) (by first | omega | (simp only [List.length_append, List.length_cons, List.length_nil]; omega) | (simp; omega)) (by first | omega | (simp only [List.length_append, List.length_cons, List.length_nil]; omega) | (simp; omega)) (fun r108_10 cr108_10 => ?_)
          refine ent_o rfl (ok_fieldAddrEx Try.runUnderlying32 rfl Try.sizeOf30 (by decide) rfl) ?_
          refine ent_storeB (k := 2) Try.sizeOf30 rfl rfl rfl (one_ex rfl) rfl ?_
          refine ent_nil ?_
          refine ent_k hK25 ?_
          refine ent_region ?_
          refine ent_o rfl (ok_move rfl) ?_
          refine ent_o rfl (ok_add rfl rfl (by omega) (by omega)) ?_
          refine ent_o rfl (ok_assign rfl) ?_
          refine ent_nil ?_
          refine ent_again (s := (j, rr10, cc10)) (j + 1, (some r108_10), cr108_10) ⟨(by first | rfl | assumption | omega | (simp_all; done) | grind), (by first | rfl | assumption | omega | (simp_all; done) | grind)⟩ (by first | omega | (dsimp only; omega)) (ent_rep ⟨rfl, rfl, rfl, rfl, rfl, rfl, rfl, rfl, rfl, rfl, trivial⟩ (own_cons (own_vec (show (gHead n a h ++ histArcs n b h i.toNat) ++ mapT (arcC n b (lastN n h i.toNat) i) (ix (0, []) h i).2 (j + 1) = ((gHead n a h ++ histArcs n b h i.toNat) ++ mapT (arcC n b (lastN n h i.toNat) i) (ix (0, []) h i).2 j) ++ [((2 * (ix 0 (lastN n h i.toNat) (ix 0 ((ix (0, []) h i).2) j))) + 2, (2 * (n + i)) + 1, b)] by first | rfl | (rw [mapT_succ 0 _ _ j0 h82, ← List.append_assoc]; rfl))) (own_cons (rfl) (own_cons (own_box (av_cons rfl (av_cons (av_vec (congrArg List.length (show (gHead n a h ++ histArcs n b h i.toNat) ++ mapT (arcC n b (lastN n h i.toNat) i) (ix (0, []) h i).2 (j + 1) = ((gHead n a h ++ histArcs n b h i.toNat) ++ mapT (arcC n b (lastN n h i.toNat) i) (ix (0, []) h i).2 j) ++ [((2 * (ix 0 (lastN n h i.toNat) (ix 0 ((ix (0, []) h i).2) j))) + 2, (2 * (n + i)) + 1, b)] by first | rfl | (rw [mapT_succ 0 _ _ j0 h82, ← List.append_assoc]; rfl)))) (rfl)))) (rfl)))))
        · refine ent_exit ?_
          refine ent_k hK21 ?_
          refine ent_region ?_
          refine ent_o rfl (ok_move rfl) ?_
          refine ent_o rfl (ok_move rfl) ?_
          refine ent_o rfl (ok_move rfl) ?_
          refine ent_o rfl (ok_index (0, []) sl28 rfl rfl (by omega) (by omega)) ?_
          refine ent_o rfl (ok_fieldAddr1 Try.runUnderlying40 rfl Try.sizeOf3 rfl rfl) ?_
          refine ent_o rfl (ok_load ti3 rfl) ?_
          refine ent_o rfl (ok_move rfl) ?_
          refine ent_o rfl (ok_move rfl) ?_
          refine ent_o rfl (ok_add rfl rfl (by omega) (by omega)) ?_
          refine ent_o rfl (ok_indexV sl29 rfl rfl (by omega) (by omega)) ?_
          refine ent_storeV (k := 1) (z := n + i) ti3 rfl rfl rfl (elem_one (one_int _)) (by omega) (by omega) ?_
          refine ent_nil ?_
          refine ent_k hK20 ?_
          refine ent_region ?_
          refine ent_o rfl (ok_move rfl) ?_
          refine ent_o rfl (ok_add rfl rfl (by omega) (by omega)) ?_
          refine ent_o rfl (ok_assign rfl) ?_
          refine ent_nil ?_
          refine ent_again (s := (i, rr9, cc9)) (i + 1, rr10, cc10) ⟨(by first | rfl | assumption | omega | (simp_all; done) | grind), (by first | rfl | assumption | omega | (simp_all; done) | grind)⟩ (by first | omega | (dsimp only; omega)) (ent_rep ⟨rfl, rfl, rfl, rfl, rfl, rfl, rfl, rfl, rfl, trivial⟩ (own_cons (own_vec (show gHead n a h ++ histArcs n b h (i + 1).toNat = (gHead n a h ++ histArcs n b h i.toNat) ++ mapT (arcC n b (lastN n h i.toNat) i) (ix (0, []) h i).2 j by first | exact lastN_succ n h h0 | (rw [histArcs_succ n b h h0, mapT_all _ _ (by omega), List.append_assoc]))) (own_cons (own_vec (show lastN n h (i + 1).toNat = List.set (lastN n h i.toNat) ((ix (0, []) h i).1).toNat (n + i) by first | exact lastN_succ n h h0 | (rw [histArcs_succ n b h h0, mapT_all _ _ (by omega), List.append_assoc]))) (own_cons (own_box (av_cons rfl (av_cons (av_vec (congrArg List.length (show gHead n a h ++ histArcs n b h (i + 1).toNat = (gHead n a h ++ histArcs n b h i.toNat) ++ mapT (arcC n b (lastN n h i.toNat) i) (ix (0, []) h i).2 j by first | exact lastN_succ n h h0 | (rw [histArcs_succ n b h h0, mapT_all _ _ (by omega), List.append_assoc])))) (rfl)))) (rfl)))))
      · refine ent_exit ?_
        refine ent_k hK16 ?_
        refine ent_seq fun K26 hK26 => ?_
        refine ent_seq fun K27 hK27 => ?_
        refine ent_region ?_
        refine ent_o rfl (ok_assign rfl) ?_
        refine ent_nil ?_
        refine ent_k hK27 ?_
        refine ent_block ?_
        have hcap := take_arcs_lt hbig hn.1 h.length (Nat.le_refl _) a b
        rw [List.length_append] at hcap
        have hi : i = (h.length : Int) := by omega
        refine ent_loop (fun (ss : Int × Option Nat × Nat) => match ss with | (k, rr12, cc12) => (⟨[(4, aSl 1 false aInt c), (10, aEx (.pointer (some ⟨b10_1, 0, none⟩))), (11, aInt ((2 * (n + (↑h.length : Int))) + 1)), (12, aEx (.pointer (some ⟨b12_2, 0, none⟩))), (13, aEx (vec (some b29_3) ((n).toNat) ((n).toNat))), (18, aInt k)], [oVec rr12 cc12 89 3 true aArc (gHead n a h ++ histArcs n b h h.length ++ mapT (arcD n h.length (lastN n h h.length)) c k), oVec (some b29_3) ((n).toNat) 3 1 false aInt (lastN n h h.length), oBox b12_2 32 [aInt (((2 * (n + (↑h.length : Int))) + 1) + 1), aEx (vec rr12 ((gHead n a h ++ histArcs n b h h.length ++ mapT (arcD n h.length (lastN n h h.length)) c k).length) cc12)], oBox b10_1 32 [aInt 0, aEx (.slice none 0 0)]]⟩ : St)) (fun (ss : Int × Option Nat × Nat) => match ss with | (k, rr12, cc12) => (0 ≤ k) ∧ (k ≤ c.length)) (fun (ss : Int × Option Nat × Nat) => match ss with | (k, rr12, cc12) => (c.length - k).toNat) (0, rr9, cc9) ⟨(by first | rfl | assumption | omega | (simp_all; done) | grind), (by first | rfl | assumption | omega | (simp_all; done) | grind)⟩ (ent_rep ⟨rfl, rfl, rfl, rfl, rfl, slot_av (av_int (show 0 = (0 : Int) by first | rfl | assumption | omega | (simp_all; done) | grind)), trivial⟩ (own_cons (own_vec (show gHead n a h ++ histArcs n b h h.length ++ mapT (arcD n h.length (lastN n h h.length)) c (0 : Int) = gHead n a h ++ histArcs n b h i.toNat by first | rfl | (rw [hi, Int.toNat_natCast]; simp [mapT_zero]; done) | (rw [hi, Int.toNat_natCast]))) (own_cons (own_vec (show lastN n h h.length = lastN n h i.toNat by first | rfl | (rw [hi, Int.toNat_natCast]; simp [mapT_zero]; done) | (rw [hi, Int.toNat_natCast]))) (own_cons (own_box (av_cons rfl (av_cons (av_vec (congrArg List.length (show gHead n a h ++ histArcs n b h h.length ++ mapT (arcD n h.length (lastN n h h.length)) c (0 : Int) = gHead n a h ++ histArcs n b h i.toNat by first | rfl | (rw [hi, Int.toNat_natCast]; simp [mapT_zero]; done) | (rw [hi, Int.toNat_natCast])))) (rfl)))) (rfl))))) ?_
        rintro ⟨k, rr12, cc12⟩ ⟨h0, h1⟩
        show Ent _ (⟨[(4, aSl 1 false aInt c), (10, aEx (.pointer (some ⟨b10_1, 0, none⟩))), (11, aInt ((2 * (n + (↑h.length : Int))) + 1)), (12, aEx (.pointer (some ⟨b12_2, 0, none⟩))), (13, aEx (vec (some b29_3) ((n).toNat) ((n).toNat))), (18, aInt k)], [oVec rr12 cc12 89 3 true aArc (gHead n a h ++ histArcs n b h h.length ++ mapT (arcD n h.length (lastN n h h.length)) c k), oVec (some b29_3) ((n).toNat) 3 1 false aInt (lastN n h h.length), oBox b12_2 32 [aInt (((2 * (n + (↑h.length : Int))) + 1) + 1), aEx (vec rr12 ((gHead n a h ++ histArcs n b h h.length ++ mapT (arcD n h.length (lastN n h h.length)) c k).length) cc12)], oBox b10_1 32 [aInt 0, aEx (.slice none 0 0)]]⟩ : St) _
        have hlT := length_mapT (arcD n h.length (lastN n h h.length)) c h1
        have hll := length_lastN n h h.length
        refine ent_seq fun K28 hK28 => ?_
        refine ent_seq fun K29 hK29 => ?_
        refine ent_region ?_
        refine ent_o rfl (ok_move rfl) ?_
        refine ent_o rfl (ok_move rfl) ?_
        refine ent_o rfl (ok_len rfl Try.runUnderlying29 rfl) ?_
        refine ent_o rfl (ok_lss rfl rfl) ?_
        refine ent_nil ?_
        refine ent_k hK29 ?_
        refine ent_condD rfl (fun h123 => ?_) (fun h123 => ?_)
        · have hm := lstErr_mem hcl h0 h123
          have hlx := ix_lastN (n := n) (h := h) (i := (h.length : Int)) hm.1 hm.2 (by omega)
          rw [Int.toNat_natCast] at hlx
          refine ent_skip ?_
          refine ent_k hK28 ?_
          refine ent_seq fun K30 hK30 => ?_
          refine ent_block ?_
          refine ent_draw 14 mixed (by kernel_rfl) (by kernel_rfl) (by kernel_rfl) ?_
          refine dw_o rfl (ok_fieldAddrEx Try.runUnderlying32 rfl Try.sizeOf30 (by decide) rfl) ?_
          refine dw_o rfl (ok_loadB (k := 2) Try.isAgg30 rfl rfl rfl) ?_
          refine dw_o rfl (ok_move rfl) ?_
          refine dw_o rfl (ok_move rfl) ?_
          refine dw_o rfl (ok_move rfl) ?_
          refine dw_o rfl (ok_index 0 sl29 rfl rfl (by omega) (by omega)) ?_
          refine dw_o rfl (ok_load ti3 rfl) ?_
          refine dw_o rfl (ok_indexV sl29 rfl rfl (by omega) (by omega)) ?_
          refine dw_o rfl (ok_loadV (k := 1) 0 ti3 rfl rfl (by omega) (by omega)) ?_
          refine dw_o rfl (ok_mul rfl rfl (by omega) (by omega)) ?_
          refine dw_o rfl (ok_add rfl rfl (by omega) (by omega)) ?_
          refine dw_o rfl (ok_move rfl) ?_
          refine dw_o rfl (ok_build st89 (As := [aInt 0, aInt 0, aInt 0]) z89 (⟨0, 1, rfl, .inl ⟨rfl, _, rfl, (one_int _), rfl, ⟨1, 1, rfl, .inl ⟨rfl, _, rfl, (one_int _), rfl, ⟨2, 1, rfl, .inl ⟨rfl, _, rfl, (one_int _), rfl, rfl⟩⟩⟩⟩⟩⟩)) ?_
          refine dw_o rfl (ok_build1 (enc := aArc) (y := ((2 * (ix 0 (lastN n h h.length) (ix 0 c k))) + 2, (2 * (n + (↑h.length : Int))) + 1, 1099511627776)) vt30 rfl (elem_agg (AllOne.mem ⟨(one_int _), (one_int _), (one_int _), trivial⟩)) (by decide)) ?_
          refine dw_nil ?_
          refine ent_appendO (k := 0) (enc := aArc) (y := ((2 * (ix 0 (lastN n h h.length) (ix 0 c k))) + 2, (2 * (n + (↑h.length : Int))) + 1, 1099511627776)) rfl vt30 rfl rfl (by first | rfl | assumption | (simp; done) | (simp_all; done) | omega) rfl (elem_agg (AllOne.mem ⟨(one_int _), (one_int _), (one_int _), trivial⟩)) (by first | omega | (simp only [List.length_append, List.length_cons, List.length_nil]; omega) | (simp; omega)) (by first | omega | (simp only [List.length_append, List.length_cons, List.length_nil]; omega) | (simp; omega)) (fun r140_12 cr140_12 => ?_)
          refine ent_o rfl (ok_fieldAddrEx Try.runUnderlying32 rfl Try.sizeOf30 (by decide) rfl) ?_
          refine ent_storeB (k := 2) Try.sizeOf30 rfl rfl rfl (one_ex rfl) rfl ?_
          refine ent_nil ?_
          refine ent_k hK30 ?_
          refine ent_region ?_
          refine ent_o rfl (ok_move rfl) ?_
          refine ent_o rfl (ok_add rfl rfl (by omega) (by omega)) ?_
          refine ent_o rfl (ok_assign rfl) ?_
          refine ent_nil ?_
          refine ent_again (s := (k, rr12, cc12)) (k + 1, (some r140_12), cr140_12) ⟨(by first | rfl | assumption | omega | (simp_all; done) | grind), (by first | rfl | assumption | omega | (simp_all; done) | grind)⟩ (by first | omega | (dsimp only; omega)) (ent_rep ⟨rfl, rfl, rfl, rfl, rfl, rfl, trivial⟩ (own_cons (own_vec (show gHead n a h ++ histArcs n b h h.length ++ mapT (arcD n h.length (lastN n h h.length)) c (k + 1) = (gHead n a h ++ histArcs n b h h.length ++ mapT (arcD n h.length (lastN n h h.length)) c k) ++ [((2 * (ix 0 (lastN n h h.length) (ix 0 c k))) + 2, (2 * (n + (↑h.length : Int))) + 1, 1099511627776)] by first | rfl | (rw [mapT_succ 0 _ _ h0 h123, ← List.append_assoc]; rfl))) (own_cons (rfl) (own_cons (own_box (av_cons rfl (av_cons (av_vec (congrArg List.length (show gHead n a h ++ histArcs n b h h.length ++ mapT (arcD n h.length (lastN n h h.length)) c (k + 1) = (gHead n a h ++ histArcs n b h h.length ++ mapT (arcD n h.length (lastN n h h.length)) c k) ++ [((2 * (ix 0 (lastN n h h.length) (ix 0 c k))) + 2, (2 * (n + (↑h.length : Int))) + 1, 1099511627776)] by first | rfl | (rw [mapT_succ 0 _ _ h0 h123, ← List.append_assoc]; rfl)))) (rfl)))) (rfl)))))
        · refine ent_exit ?_
          refine ent_k hK26 ?_
          refine ent_seq fun K31 hK31 => ?_
          refine ent_region ?_
          refine ent_o rfl (ok_loadBS (k := 2) ti32 rfl rfl rfl) ?_
          refine ent_storeBS (k := 3) Try.sizeOf32 rfl rfl rfl (AllOne.mem ⟨(one_int _), (one_ex rfl), trivial⟩) rfl rfl ?_
          show Ent _ (⟨_, [oVec rr12 cc12 89 3 true aArc (gHead n a h ++ histArcs n b h h.length ++ mapT (arcD n h.length (lastN n h h.length)) c k), oVec (some b29_3) ((n).toNat) 3 1 false aInt (lastN n h h.length), oBox b12_2 32 [aInt (((2 * (n + (↑h.length : Int))) + 1) + 1), aEx (vec rr12 ((gHead n a h ++ histArcs n b h h.length ++ mapT (arcD n h.length (lastN n h h.length)) c k).length) cc12)], oBox b10_1 32 [aInt (((2 * (n + (↑h.length : Int))) + 1) + 1), aEx (vec rr12 ((gHead n a h ++ histArcs n b h h.length ++ mapT (arcD n h.length (lastN n h h.length)) c k).length) cc12)]]⟩ : St) _
          refine ent_nil ?_
          refine ent_k hK31 ?_
          refine ent_ret ?_
          exact retR1 (.inr rfl) Try.results22 (resr_cell (k := 3) ti32 rfl rfl rfl (cv_agg ⟨cv_int (by first | (unfold netV; rw [if_pos hE]; done) | (unfold netV; rw [if_pos hE]; omega) | (unfold netA; rw [if_pos hE, mapT_all _ _ (by omega)]; rfl)), cv_vec (k := 0) (off_x rfl) (by first | rfl | assumption | (simp; done) | (simp_all; done) | omega) (by first | (unfold netV; rw [if_pos hE]; done) | (unfold netV; rw [if_pos hE]; omega) | (unfold netA; rw [if_pos hE, mapT_all _ _ (by omega)]; rfl)), trivial⟩))

theorem Graph_ok (n a b : Int) (h : List Fl) (c : List Int) (hh : h.length ≤ 130) (hc : c.length ≤ 100) : Ctr Try.prog 19 [aInt n, aInt a, aInt b, aSl 2 true aFl h, aSl 1 false aInt c] (aTup [aAgg [aInt (netV n a b h c), aSl 3 true aArc (netA n a b h c)], aInt (gErr n a b h c)]) := by
  refine ctr_of Try.call19 Try.func19 rfl rfl ?_
  intro w O
  refine ent_len 3 rfl (fun hlen3 => ?_)
  refine ent_len 4 rfl (fun hlen4 => ?_)
  refine ent_seq fun K1 hK1 => ?_
  refine ent_region ?_
  refine ent_alloc (z := .agg #[.int .i64 0, .slice none 0 0]) [aInt 0, aEx (.slice none 0 0)] rfl zv32 rfl zc32 (fun b10_1 => ?_)
  refine ent_o rfl (ok_assign rfl) ?_
  refine ent_nil ?_
  refine ent_k hK1 ?_
  refine ent_seq fun K2 hK2 => ?_
  refine ent_seq fun K3 hK3 => ?_
  refine ent_cut (⟨[(0, aInt n), (1, aInt a), (2, aInt b), (3, aSl 2 true aFl h), (4, aSl 1 false aInt c), (10, aEx (.pointer (some ⟨b10_1, 0, none⟩))), (49, aBool (decide ((((((n < 1) ∨ (64 < n)) ∨ (a < 0)) ∨ (1048576 < a)) ∨ (b < 0)) ∨ (1048576 < b))))], [oBox b10_1 32 [aInt 0, aEx (.slice none 0 0)]]⟩) ?_ ?_
  · refine ent_region ?_
    refine ent_o rfl (ok_move rfl) ?_
    refine ent_o rfl (ok_lss rfl rfl) ?_
    refine ent_o rfl (ok_move rfl) ?_
    refine ent_guardXDf rfl rfl rfl rfl (fun hg30 => ?_) (fun hg30 => ?_)
    · refine ent_o rfl (ok_move rfl) ?_
      refine ent_guardXT rfl rfl rfl rfl (decide_eq_false hg30) ?_
      refine ent_o rfl (ok_gtr rfl rfl) ?_
      refine ent_o rfl (ok_pickF rfl (decide_eq_false hg30) rfl) ?_
      refine ent_o rfl (ok_move rfl) ?_
      refine ent_guardXDf rfl rfl rfl rfl (fun hg34 => ?_) (fun hg34 => ?_)
      · refine ent_o rfl (ok_move rfl) ?_
        refine ent_guardXT rfl rfl rfl rfl (decide_eq_false hg34) ?_
        refine ent_o rfl (ok_lss rfl rfl) ?_
        refine ent_o rfl (ok_pickF rfl (decide_eq_false hg34) rfl) ?_
        refine ent_o rfl (ok_move rfl) ?_
        refine ent_guardXDf rfl rfl rfl rfl (fun hg38 => ?_) (fun hg38 => ?_)
        · refine ent_o rfl (ok_move rfl) ?_
          refine ent_guardXT rfl rfl rfl rfl (decide_eq_false hg38) ?_
          refine ent_o rfl (ok_gtr rfl rfl) ?_
          refine ent_o rfl (ok_pickF rfl (decide_eq_false hg38) rfl) ?_
          refine ent_o rfl (ok_move rfl) ?_
          refine ent_guardXDf rfl rfl rfl rfl (fun hg42 => ?_) (fun hg42 => ?_)
          · refine ent_o rfl (ok_move rfl) ?_
            refine ent_guardXT rfl rfl rfl rfl (decide_eq_false hg42) ?_
            refine ent_o rfl (ok_lss rfl rfl) ?_
            refine ent_o rfl (ok_pickF rfl (decide_eq_false hg42) rfl) ?_
            refine ent_o rfl (ok_move rfl) ?_
            refine ent_guardXDf rfl rfl rfl rfl (fun hg46 => ?_) (fun hg46 => ?_)
            · refine ent_o rfl (ok_move rfl) ?_
              refine ent_guardXT rfl rfl rfl rfl (decide_eq_false hg46) ?_
              refine ent_o rfl (ok_gtr rfl rfl) ?_
              refine ent_o rfl (ok_pickF rfl (decide_eq_false hg46) rfl) ?_
              refine ent_nil ?_
              exact ent_rep ⟨rfl, rfl, rfl, rfl, rfl, rfl, slot_bool (dq_Q ((or_iff_right (fun h => h.elim (fun h => h.elim (fun h => h.elim (fun h => h.elim hg30 hg34) hg38) hg42) hg46)).trans Iff.rfl)), trivial⟩ rfl
            · refine ent_guardXF rfl rfl rfl rfl (decide_eq_true hg46) ?_
              refine ent_o rfl (ok_pickT rfl (decide_eq_true hg46) rfl) ?_
              refine ent_nil ?_
              exact ent_rep ⟨rfl, rfl, rfl, rfl, rfl, rfl, slot_bool (dq_T rfl (Or.inl (Or.inr hg46))), trivial⟩ rfl
          · refine ent_guardXF rfl rfl rfl rfl (decide_eq_true hg42) ?_
            refine ent_o rfl (ok_pickT rfl (decide_eq_true hg42) rfl) ?_
            refine ent_o rfl (ok_move rfl) ?_
            refine ent_guardXF rfl rfl rfl rfl rfl ?_
            refine ent_guardXF rfl rfl rfl rfl rfl ?_
            refine ent_o rfl (ok_pickT rfl rfl rfl) ?_
            refine ent_nil ?_
            exact ent_rep ⟨rfl, rfl, rfl, rfl, rfl, rfl, slot_bool (dq_T rfl (Or.inl (Or.inl (Or.inr hg42)))), trivial⟩ rfl
        · refine ent_guardXF rfl rfl rfl rfl (decide_eq_true hg38) ?_
          refine ent_o rfl (ok_pickT rfl (decide_eq_true hg38) rfl) ?_
          refine ent_o rfl (ok_move rfl) ?_
          refine ent_guardXF rfl rfl rfl rfl rfl ?_
          refine ent_guardXF rfl rfl rfl rfl rfl ?_
          refine ent_o rfl (ok_pickT rfl rfl rfl) ?_
          refine ent_o rfl (ok_move rfl) ?_
          refine ent_guardXF rfl rfl rfl rfl rfl ?_
          refine ent_guardXF rfl rfl rfl rfl rfl ?_
          refine ent_o rfl (ok_pickT rfl rfl rfl) ?_
          refine ent_nil ?_
          exact ent_rep ⟨rfl, rfl, rfl, rfl, rfl, rfl, slot_bool (dq_T rfl (Or.inl (Or.inl (Or.inl (Or.inr hg38))))), trivial⟩ rfl
      · refine ent_guardXF rfl rfl rfl rfl (decide_eq_true hg34) ?_
        refine ent_o rfl (ok_pickT rfl (decide_eq_true hg34) rfl) ?_
        refine ent_o rfl (ok_move rfl) ?_
        refine ent_guardXF rfl rfl rfl rfl rfl ?_
        refine ent_guardXF rfl rfl rfl rfl rfl ?_
        refine ent_o rfl (ok_pickT rfl rfl rfl) ?_
        refine ent_o rfl (ok_move rfl) ?_
        refine ent_guardXF rfl rfl rfl rfl rfl ?_
        refine ent_guardXF rfl rfl rfl rfl rfl ?_
        refine ent_o rfl (ok_pickT rfl rfl rfl) ?_
        refine ent_o rfl (ok_move rfl) ?_
        refine ent_guardXF rfl rfl rfl rfl rfl ?_
        refine ent_guardXF rfl rfl rfl rfl rfl ?_
        refine ent_o rfl (ok_pickT rfl rfl rfl) ?_
        refine ent_nil ?_
        exact ent_rep ⟨rfl, rfl, rfl, rfl, rfl, rfl, slot_bool (dq_T rfl (Or.inl (Or.inl (Or.inl (Or.inl (Or.inr hg34)))))), trivial⟩ rfl
    · refine ent_guardXF rfl rfl rfl rfl (decide_eq_true hg30) ?_
      refine ent_o rfl (ok_pickT rfl (decide_eq_true hg30) rfl) ?_
      refine ent_o rfl (ok_move rfl) ?_
      refine ent_guardXF rfl rfl rfl rfl rfl ?_
      refine ent_guardXF rfl rfl rfl rfl rfl ?_
      refine ent_o rfl (ok_pickT rfl rfl rfl) ?_
      refine ent_o rfl (ok_move rfl) ?_
      refine ent_guardXF rfl rfl rfl rfl rfl ?_
      refine ent_guardXF rfl rfl rfl rfl rfl ?_
      refine ent_o rfl (ok_pickT rfl rfl rfl) ?_
      refine ent_o rfl (ok_move rfl) ?_
      refine ent_guardXF rfl rfl rfl rfl rfl ?_
      refine ent_guardXF rfl rfl rfl rfl rfl ?_
      refine ent_o rfl (ok_pickT rfl rfl rfl) ?_
      refine ent_o rfl (ok_move rfl) ?_
      refine ent_guardXF rfl rfl rfl rfl rfl ?_
      refine ent_guardXF rfl rfl rfl rfl rfl ?_
      refine ent_o rfl (ok_pickT rfl rfl rfl) ?_
      refine ent_nil ?_
      exact ent_rep ⟨rfl, rfl, rfl, rfl, rfl, rfl, slot_bool (dq_T rfl (Or.inl (Or.inl (Or.inl (Or.inl (Or.inl hg30)))))), trivial⟩ rfl
  refine ent_k hK3 ?_
  refine ent_condD rfl (fun h49 => ?_) (fun h49 => ?_)
  · have hb : rngBad n a b := h49
    have hE : gErr n a b h c = 6 := by rw [gErr, if_pos hb]
    refine ent_seq fun K4 hK4 => ?_
    refine ent_region ?_
    refine ent_o rfl (ok_build st32 (As := [aInt 0, aEx (.slice none 0 0)]) z32 (rfl)) ?_
    refine ent_storeBS (k := 0) Try.sizeOf32 rfl rfl rfl (AllOne.mem ⟨(one_int _), (one_ex rfl), trivial⟩) rfl rfl ?_
    show Ent _ (⟨_, [oBox b10_1 32 [aInt 0, aEx (.slice none 0 0)]]⟩ : St) _
    refine ent_o rfl (ok_assign rfl) ?_
    refine ent_nil ?_
    refine ent_k hK4 ?_
    refine ent_ret ?_
    exact retR2 (.inr rfl) Try.results19 (resr_cell (k := 0) ti32 rfl rfl rfl (cv_agg ⟨cv_int (by first | exact hE.symm | (simp [netV, netA, hE]; done) | (rw [hnd]; exact hE.symm) | (rw [hnc]; exact hE.symm) | (unfold netV; rw [hE]; exact (if_neg h85).symm) | (unfold netA; rw [hE]; exact (if_neg h85).symm) | (unfold netV; rw [hE]; exact (if_neg h100).symm) | (unfold netA; rw [hE]; exact (if_neg h100).symm)), cv_nil (fun h => by cases h) (by first | exact hE.symm | (simp [netV, netA, hE]; done) | (rw [hnd]; exact hE.symm) | (rw [hnc]; exact hE.symm) | (unfold netV; rw [hE]; exact (if_neg h85).symm) | (unfold netA; rw [hE]; exact (if_neg h85).symm) | (unfold netV; rw [hE]; exact (if_neg h100).symm) | (unfold netA; rw [hE]; exact (if_neg h100).symm)), trivial⟩)) (resr_tmp (res_cv rfl (cv_int (by first | exact hE.symm | (simp [netV, netA, hE]; done) | (rw [hnd]; exact hE.symm) | (rw [hnc]; exact hE.symm) | (unfold netV; rw [hE]; exact (if_neg h85).symm) | (unfold netA; rw [hE]; exact (if_neg h85).symm) | (unfold netV; rw [hE]; exact (if_neg h100).symm) | (unfold netA; rw [hE]; exact (if_neg h100).symm)))))
  · have hb : ¬ rngBad n a b := h49
    have hn : 1 ≤ n ∧ n ≤ 64 := by omega
    refine ent_skip ?_
    refine ent_k hK2 ?_
    refine ent_seq fun K5 hK5 => ?_
    refine ent_region ?_
    refine ent_o rfl (ok_move rfl) ?_
    refine ent_o rfl (ok_mul rfl rfl (by omega) (by omega)) ?_
    refine ent_o rfl (ok_move rfl) ?_
    refine ent_o rfl (ok_len rfl Try.runUnderlying28 rfl) ?_
    refine ent_o rfl (ok_add rfl rfl (by omega) (by omega)) ?_
    refine ent_o rfl (ok_move rfl) ?_
    refine ent_o rfl (ok_len rfl Try.runUnderlying29 rfl) ?_
    refine ent_o rfl (ok_add rfl rfl (by omega) (by omega)) ?_
    refine ent_o rfl (ok_assign rfl) ?_
    refine ent_nil ?_
    refine ent_k hK5 ?_
    refine ent_seq fun K6 hK6 => ?_
    refine ent_seq fun K7 hK7 => ?_
    refine ent_region ?_
    refine ent_o rfl (ok_move rfl) ?_
    refine ent_o rfl (ok_len rfl Try.runUnderlying28 rfl) ?_
    refine ent_o rfl (ok_move rfl) ?_
    refine ent_nil ?_
    refine ent_k hK7 ?_
    refine ent_block ?_
    refine ent_loop (fun (i : Int) => (⟨[(0, aInt n), (1, aInt a), (2, aInt b), (3, aSl 2 true aFl h), (4, aSl 1 false aInt c), (10, aEx (.pointer (some ⟨b10_1, 0, none⟩))), (12, aInt (2 * n + (h.length : Int) + (c.length : Int) + hArcs (h.take i.toNat))), (59, aSl 2 true aFl h), (60, aInt (↑h.length : Int)), (61, aInt i)], [oBox b10_1 32 [aInt 0, aEx (.slice none 0 0)]]⟩ : St)) (fun (i : Int) => (0 ≤ i) ∧ (i ≤ h.length) ∧ (hErr n (h.take i.toNat) = 0)) (fun (i : Int) => (h.length - i).toNat) 0 ⟨(by first | rfl | assumption | omega | (simp_all; done) | grind), (by first | rfl | assumption | omega | (simp_all; done) | grind), (by simp [hErr])⟩ (ent_rep ⟨rfl, rfl, rfl, rfl, rfl, rfl, slot_av (av_int (show ((2 * n) + (↑h.length : Int)) + (↑c.length : Int) = 2 * n + (h.length : Int) + (c.length : Int) + hArcs (h.take (0 : Int).toNat) by simp [hArcs])), rfl, rfl, slot_av (av_int (show 0 = (0 : Int) by first | rfl | assumption | omega | (simp_all; done) | grind)), trivial⟩ rfl) ?_
    rintro i ⟨h0, h1, hp⟩
    show Ent _ (⟨[(0, aInt n), (1, aInt a), (2, aInt b), (3, aSl 2 true aFl h), (4, aSl 1 false aInt c), (10, aEx (.pointer (some ⟨b10_1, 0, none⟩))), (12, aInt (2 * n + (h.length : Int) + (c.length : Int) + hArcs (h.take i.toNat))), (59, aSl 2 true aFl h), (60, aInt (↑h.length : Int)), (61, aInt i)], [oBox b10_1 32 [aInt 0, aEx (.slice none 0 0)]]⟩ : St) _
    have hk := hArcs_le hn.2 hp
    have hkl : (List.length (h.take i.toNat) : Int) ≤ 130 := by simp; omega
    refine ent_seq fun K8 hK8 => ?_
    refine ent_region ?_
    refine ent_o rfl (ok_lss rfl rfl) ?_
    refine ent_nil ?_
    refine ent_k hK8 ?_
    refine ent_seq fun K9 hK9 => ?_
    refine ent_condD rfl (fun h62 => ?_) (fun h62 => ?_)
    · refine ent_skip ?_
      refine ent_k hK9 ?_
      refine ent_seq fun K10 hK10 => ?_
      refine ent_block ?_
      refine ent_seq fun K11 hK11 => ?_
      refine ent_region ?_
      refine ent_o rfl (ok_index (0, []) sl28 rfl rfl (by omega) (by omega)) ?_
      refine ent_o rfl (ok_load ti40 rfl) ?_
      refine ent_alloc (z := .agg #[.int .i64 0, .slice none 0 0]) [aInt 0, aEx (.slice none 0 0)] rfl zv40 rfl zc40 (fun b14_2 => ?_)
      refine ent_storeBS (k := 0) Try.sizeOf40 rfl rfl rfl (AllOne.mem ⟨(one_int _), one_sl, trivial⟩) rfl rfl ?_
      show Ent _ (⟨_, [oBox b14_2 40 [aInt ((ix (0, []) h i).1), aSl 1 false aInt ((ix (0, []) h i).2)], oBox b10_1 32 [aInt 0, aEx (.slice none 0 0)]]⟩ : St) _
      refine ent_nil ?_
      refine ent_k hK11 ?_
      refine ent_seq fun K12 hK12 => ?_
      refine ent_seq fun K13 hK13 => ?_
      refine ent_cut (⟨[(0, aInt n), (1, aInt a), (2, aInt b), (3, aSl 2 true aFl h), (4, aSl 1 false aInt c), (10, aEx (.pointer (some ⟨b10_1, 0, none⟩))), (12, aInt (2 * n + (h.length : Int) + (c.length : Int) + hArcs (h.take i.toNat))), (14, aEx (.pointer (some ⟨b14_2, 0, none⟩))), (59, aSl 2 true aFl h), (60, aInt (↑h.length : Int)), (61, aInt i), (73, aBool (decide ((((ix (0, []) h i).1) < 0) ∨ (n ≤ ((ix (0, []) h i).1)))))], [oBox b14_2 40 [aInt ((ix (0, []) h i).1), aSl 1 false aInt ((ix (0, []) h i).2)], oBox b10_1 32 [aInt 0, aEx (.slice none 0 0)]]⟩) ?_ ?_
      · refine ent_region ?_
        refine ent_o rfl (ok_fieldAddrEx Try.runUnderlying40 rfl Try.sizeOf3 (by decide) rfl) ?_
        refine ent_o rfl (ok_loadB (k := 0) Try.isAgg3 rfl rfl rfl) ?_
        refine ent_o rfl (ok_lss rfl rfl) ?_
        refine ent_o rfl (ok_move rfl) ?_
        refine ent_guardXDf rfl rfl rfl rfl (fun hg68 => ?_) (fun hg68 => ?_)
        · refine ent_o rfl (ok_fieldAddrEx Try.runUnderlying40 rfl Try.sizeOf3 (by decide) rfl) ?_
          refine ent_guardXT rfl rfl rfl rfl (decide_eq_false hg68) ?_
          refine ent_o rfl (ok_loadB (k := 0) Try.isAgg3 rfl rfl rfl) ?_
          refine ent_guardXT rfl rfl rfl rfl (decide_eq_false hg68) ?_
          refine ent_o rfl (ok_move rfl) ?_
          refine ent_guardXT rfl rfl rfl rfl (decide_eq_false hg68) ?_
          refine ent_o rfl (ok_geq rfl rfl) ?_
          refine ent_o rfl (ok_pickF rfl (decide_eq_false hg68) rfl) ?_
          refine ent_nil ?_
          exact ent_rep ⟨rfl, rfl, rfl, rfl, rfl, rfl, rfl, rfl, rfl, rfl, rfl, slot_bool (dq_Q ((or_iff_right hg68).trans Iff.rfl)), trivial⟩ rfl
        · refine ent_guardXF rfl rfl rfl rfl (decide_eq_true hg68) ?_
          refine ent_guardXF rfl rfl rfl rfl (decide_eq_true hg68) ?_
          refine ent_guardXF rfl rfl rfl rfl (decide_eq_true hg68) ?_
          refine ent_o rfl (ok_pickT rfl (decide_eq_true hg68) rfl) ?_
          refine ent_nil ?_
          exact ent_rep ⟨rfl, rfl, rfl, rfl, rfl, rfl, rfl, rfl, rfl, rfl, rfl, slot_bool (dq_T rfl (Or.inl hg68)), trivial⟩ rfl
      refine ent_k hK13 ?_
      refine ent_condD rfl (fun h73 => ?_) (fun h73 => ?_)
      · have hE : gErr n a b h c = 6 := by rw [gErr, if_neg hb, hErr_at h0 h62 hp (by rw [flErr, if_pos h73]; decide), flErr, if_pos h73]; rfl
        refine ent_seq fun K14 hK14 => ?_
        refine ent_region ?_
        refine ent_o rfl (ok_build st32 (As := [aInt 0, aEx (.slice none 0 0)]) z32 (rfl)) ?_
        refine ent_storeBS (k := 1) Try.sizeOf32 rfl rfl rfl (AllOne.mem ⟨(one_int _), (one_ex rfl), trivial⟩) rfl rfl ?_
        show Ent _ (⟨_, [oBox b14_2 40 [aInt ((ix (0, []) h i).1), aSl 1 false aInt ((ix (0, []) h i).2)], oBox b10_1 32 [aInt 0, aEx (.slice none 0 0)]]⟩ : St) _
        refine ent_o rfl (ok_assign rfl) ?_
        refine ent_nil ?_
        refine ent_k hK14 ?_
        refine ent_ret ?_
        exact retR2 (.inr rfl) Try.results19 (resr_cell (k := 1) ti32 rfl rfl rfl (cv_agg ⟨cv_int (by first | exact hE.symm | (simp [netV, netA, hE]; done) | (rw [hnd]; exact hE.symm) | (rw [hnc]; exact hE.symm) | (unfold netV; rw [hE]; exact (if_neg h85).symm) | (unfold netA; rw [hE]; exact (if_neg h85).symm) | (unfold netV; rw [hE]; exact (if_neg h100).symm) | (unfold netA; rw [hE]; exact (if_neg h100).symm)), cv_nil (fun h => by cases h) (by first | exact hE.symm | (simp [netV, netA, hE]; done) | (rw [hnd]; exact hE.symm) | (rw [hnc]; exact hE.symm) | (unfold netV; rw [hE]; exact (if_neg h85).symm) | (unfold netA; rw [hE]; exact (if_neg h85).symm) | (unfold netV; rw [hE]; exact (if_neg h100).symm) | (unfold netA; rw [hE]; exact (if_neg h100).symm)), trivial⟩)) (resr_tmp (res_cv rfl (cv_int (by first | exact hE.symm | (simp [netV, netA, hE]; done) | (rw [hnd]; exact hE.symm) | (rw [hnc]; exact hE.symm) | (unfold netV; rw [hE]; exact (if_neg h85).symm) | (unfold netA; rw [hE]; exact (if_neg h85).symm) | (unfold netV; rw [hE]; exact (if_neg h100).symm) | (unfold netA; rw [hE]; exact (if_neg h100).symm)))))
      · refine ent_skip ?_
        refine ent_k hK12 ?_
        refine ent_seq fun K15 hK15 => ?_
        refine ent_seq fun K16 hK16 => ?_
        refine ent_region ?_
        refine ent_o rfl (ok_fieldAddrEx Try.runUnderlying40 rfl Try.sizeOf29 (by decide) rfl) ?_
        refine ent_o rfl (ok_loadB (k := 0) Try.isAgg29 rfl rfl rfl) ?_
        refine ent_o rfl (ok_fieldAddrEx Try.runUnderlying40 rfl Try.sizeOf29 (by decide) rfl) ?_
        refine ent_o rfl (ok_loadB (k := 0) Try.isAgg29 rfl rfl rfl) ?_
        refine ent_o rfl (ok_len rfl Try.runUnderlying29 rfl) ?_
        refine ent_o rfl (ok_move rfl) ?_
        refine ent_o rfl (ok_fieldAddrEx Try.runUnderlying40 rfl Try.sizeOf3 (by decide) rfl) ?_
        refine ent_o rfl (ok_loadB (k := 0) Try.isAgg3 rfl rfl rfl) ?_
        refine ent_o rfl (ok_call (nodes_ok ((ix (0, []) h i).2) (↑((ix (0, []) h i).2).length : Int) n ((ix (0, []) h i).1)) rfl) ?_
        refine ent_o rfl (ok_assign rfl) ?_
        refine ent_nil ?_
        refine ent_k hK16 ?_
        refine ent_seq fun K17 hK17 => ?_
        refine ent_region ?_
        have hnd : (if ((ix (0, []) h i).2.length : Int) ≠ ((ix (0, []) h i).2.length : Int) then 3 else lstErr n (ix (0, []) h i).1 (ix (0, []) h i).2) = lstErr n (ix (0, []) h i).1 (ix (0, []) h i).2 := if_neg (fun h => h rfl)
        refine ent_o rfl (ok_move rfl) ?_
        refine ent_o rfl (ok_neq rfl rfl) ?_
        refine ent_nil ?_
        refine ent_k hK17 ?_
        refine ent_condD rfl (fun h85 => ?_) (fun h85 => ?_)
        · rw [hnd] at h85
          have hE : gErr n a b h c = lstErr n (ix (0, []) h i).1 (ix (0, []) h i).2 := by rw [gErr, if_neg hb, hErr_at h0 h62 hp (by rw [flErr, if_neg h73]; exact h85), flErr, if_neg h73, if_neg h85]
          refine ent_seq fun K18 hK18 => ?_
          refine ent_region ?_
          refine ent_o rfl (ok_build st32 (As := [aInt 0, aEx (.slice none 0 0)]) z32 (rfl)) ?_
          refine ent_o rfl (ok_move rfl) ?_
          refine ent_storeBS (k := 1) Try.sizeOf32 rfl rfl rfl (AllOne.mem ⟨(one_int _), (one_ex rfl), trivial⟩) rfl rfl ?_
          show Ent _ (⟨_, [oBox b14_2 40 [aInt ((ix (0, []) h i).1), aSl 1 false aInt ((ix (0, []) h i).2)], oBox b10_1 32 [aInt 0, aEx (.slice none 0 0)]]⟩ : St) _
          refine ent_o rfl (ok_assign rfl) ?_
          refine ent_nil ?_
          refine ent_k hK18 ?_
          refine ent_ret ?_
          exact retR2 (.inr rfl) Try.results19 (resr_cell (k := 1) ti32 rfl rfl rfl (cv_agg ⟨cv_int (by first | exact hE.symm | (simp [netV, netA, hE]; done) | (rw [hnd]; exact hE.symm) | (rw [hnc]; exact hE.symm) | (unfold netV; rw [hE]; exact (if_neg h85).symm) | (unfold netA; rw [hE]; exact (if_neg h85).symm) | (unfold netV; rw [hE]; exact (if_neg h100).symm) | (unfold netA; rw [hE]; exact (if_neg h100).symm)), cv_nil (fun h => by cases h) (by first | exact hE.symm | (simp [netV, netA, hE]; done) | (rw [hnd]; exact hE.symm) | (rw [hnc]; exact hE.symm) | (unfold netV; rw [hE]; exact (if_neg h85).symm) | (unfold netA; rw [hE]; exact (if_neg h85).symm) | (unfold netV; rw [hE]; exact (if_neg h100).symm) | (unfold netA; rw [hE]; exact (if_neg h100).symm)), trivial⟩)) (resr_tmp (res_cv rfl (cv_int (by first | exact hE.symm | (simp [netV, netA, hE]; done) | (rw [hnd]; exact hE.symm) | (rw [hnc]; exact hE.symm) | (unfold netV; rw [hE]; exact (if_neg h85).symm) | (unfold netA; rw [hE]; exact (if_neg h85).symm) | (unfold netV; rw [hE]; exact (if_neg h100).symm) | (unfold netA; rw [hE]; exact (if_neg h100).symm)))))
        · rw [hnd] at h85
          have he : flErr n (ix (0, []) h i) = 0 := by rw [flErr, if_neg h73]; exact Classical.not_not.1 h85
          have hl := lstErr_len (flErr_zero he).2.2 hn.2
          refine ent_skip ?_
          refine ent_k hK15 ?_
          refine ent_region ?_
          refine ent_o rfl (ok_move rfl) ?_
          refine ent_o rfl (ok_fieldAddrEx Try.runUnderlying40 rfl Try.sizeOf29 (by decide) rfl) ?_
          refine ent_o rfl (ok_loadB (k := 0) Try.isAgg29 rfl rfl rfl) ?_
          refine ent_o rfl (ok_len rfl Try.runUnderlying29 rfl) ?_
          refine ent_o rfl (ok_add rfl rfl (by omega) (by omega)) ?_
          refine ent_o rfl (ok_assign rfl) ?_
          refine ent_nil ?_
          refine ent_k hK10 ?_
          refine ent_region ?_
          refine ent_o rfl (ok_add rfl rfl (by omega) (by omega)) ?_
          refine ent_o rfl (ok_move rfl) ?_
          refine ent_nil ?_
          refine ent_drop 0 ?_
          refine ent_again (s := (i)) (i + 1) ⟨(by first | rfl | assumption | omega | (simp_all; done) | grind), (by first | rfl | assumption | omega | (simp_all; done) | grind), (hErr_succ h0 h62 hp he)⟩ (by first | omega | (dsimp only; omega)) (ent_rep ⟨rfl, rfl, rfl, rfl, rfl, rfl, slot_av (av_int (show (2 * n + (h.length : Int) + (c.length : Int) + hArcs (h.take i.toNat)) + (↑((ix (0, []) h i).2).length : Int) = 2 * n + (h.length : Int) + (c.length : Int) + hArcs (h.take (i + 1).toNat) by rw [hArcs_succ h0 h62]; omega)), rfl, rfl, rfl, trivial⟩ rfl)
    · have hp2 := hp
      rw [List.take_of_length_le (by omega)] at hp2
      have hkk := hArcs_le hn.2 hp2
      refine ent_exit ?_
      refine ent_k hK6 ?_
      refine ent_seq fun K19 hK19 => ?_
      refine ent_seq fun K20 hK20 => ?_
      refine ent_region ?_
      refine ent_o rfl (ok_move rfl) ?_
      refine ent_o rfl (ok_move rfl) ?_
      refine ent_o rfl (ok_len rfl Try.runUnderlying29 rfl) ?_
      refine ent_o rfl (ok_move rfl) ?_
      refine ent_o rfl (ok_call (nodes_ok c (↑c.length : Int) n (-1)) rfl) ?_
      refine ent_o rfl (ok_assign rfl) ?_
      refine ent_nil ?_
      refine ent_k hK20 ?_
      refine ent_seq fun K21 hK21 => ?_
      refine ent_region ?_
      have hnc : (if (c.length : Int) ≠ (c.length : Int) then 3 else lstErr n (-1) c) = lstErr n (-1) c := if_neg (fun h => h rfl)
      refine ent_o rfl (ok_move rfl) ?_
      refine ent_o rfl (ok_neq rfl rfl) ?_
      refine ent_nil ?_
      refine ent_k hK21 ?_
      refine ent_condD rfl (fun h100 => ?_) (fun h100 => ?_)
      · rw [hnc] at h100
        have hE : gErr n a b h c = lstErr n (-1) c := by rw [gErr, if_neg hb, if_pos hp2, if_neg h100]
        refine ent_seq fun K22 hK22 => ?_
        refine ent_region ?_
        refine ent_o rfl (ok_build st32 (As := [aInt 0, aEx (.slice none 0 0)]) z32 (rfl)) ?_
        refine ent_o rfl (ok_move rfl) ?_
        refine ent_storeBS (k := 0) Try.sizeOf32 rfl rfl rfl (AllOne.mem ⟨(one_int _), (one_ex rfl), trivial⟩) rfl rfl ?_
        show Ent _ (⟨_, [oBox b10_1 32 [aInt 0, aEx (.slice none 0 0)]]⟩ : St) _
        refine ent_o rfl (ok_assign rfl) ?_
        refine ent_nil ?_
        refine ent_k hK22 ?_
        refine ent_ret ?_
        exact retR2 (.inr rfl) Try.results19 (resr_cell (k := 0) ti32 rfl rfl rfl (cv_agg ⟨cv_int (by first | exact hE.symm | (simp [netV, netA, hE]; done) | (rw [hnd]; exact hE.symm) | (rw [hnc]; exact hE.symm) | (unfold netV; rw [hE]; exact (if_neg h85).symm) | (unfold netA; rw [hE]; exact (if_neg h85).symm) | (unfold netV; rw [hE]; exact (if_neg h100).symm) | (unfold netA; rw [hE]; exact (if_neg h100).symm)), cv_nil (fun h => by cases h) (by first | exact hE.symm | (simp [netV, netA, hE]; done) | (rw [hnd]; exact hE.symm) | (rw [hnc]; exact hE.symm) | (unfold netV; rw [hE]; exact (if_neg h85).symm) | (unfold netA; rw [hE]; exact (if_neg h85).symm) | (unfold netV; rw [hE]; exact (if_neg h100).symm) | (unfold netA; rw [hE]; exact (if_neg h100).symm)), trivial⟩)) (resr_tmp (res_cv rfl (cv_int (by first | exact hE.symm | (simp [netV, netA, hE]; done) | (rw [hnd]; exact hE.symm) | (rw [hnc]; exact hE.symm) | (unfold netV; rw [hE]; exact (if_neg h85).symm) | (unfold netA; rw [hE]; exact (if_neg h85).symm) | (unfold netV; rw [hE]; exact (if_neg h100).symm) | (unfold netA; rw [hE]; exact (if_neg h100).symm)))))
      · rw [hnc] at h100
        have hcl := Classical.not_not.1 h100
        refine ent_skip ?_
        refine ent_k hK19 ?_
        refine ent_seq fun K23 hK23 => ?_
        refine ent_region ?_
        refine ent_o rfl (ok_move rfl) ?_
        refine ent_o rfl (ok_move rfl) ?_
        refine ent_o rfl (ok_len rfl Try.runUnderlying28 rfl) ?_
        refine ent_o rfl (ok_add rfl rfl (by omega) (by omega)) ?_
        refine ent_o rfl (ok_assign rfl) ?_
        refine ent_nil ?_
        refine ent_k hK23 ?_
        refine ent_seq fun K24 hK24 => ?_
        refine ent_seq fun K25 hK25 => ?_
        refine ent_cut (⟨[(0, aInt n), (1, aInt a), (2, aInt b), (3, aSl 2 true aFl h), (4, aSl 1 false aInt c), (10, aEx (.pointer (some ⟨b10_1, 0, none⟩))), (17, aInt (n + (↑h.length : Int))), (114, aBool (decide ((256 < ((2 * (n + (↑h.length : Int))) + 2)) ∨ (1024 < (2 * n + (h.length : Int) + (c.length : Int) + hArcs (h.take i.toNat))))))], [oBox b10_1 32 [aInt 0, aEx (.slice none 0 0)]]⟩) ?_ ?_
        · refine ent_region ?_
          refine ent_o rfl (ok_move rfl) ?_
          refine ent_o rfl (ok_mul rfl rfl (by omega) (by omega)) ?_
          refine ent_o rfl (ok_add rfl rfl (by omega) (by omega)) ?_
          refine ent_o rfl (ok_gtr rfl rfl) ?_
          refine ent_o rfl (ok_move rfl) ?_
          refine ent_guardXDf rfl rfl rfl rfl (fun hg111 => ?_) (fun hg111 => ?_)
          · refine ent_o rfl (ok_move rfl) ?_
            refine ent_guardXT rfl rfl rfl rfl (decide_eq_false hg111) ?_
            refine ent_o rfl (ok_gtr rfl rfl) ?_
            refine ent_o rfl (ok_pickF rfl (decide_eq_false hg111) rfl) ?_
            refine ent_nil ?_
            exact ent_rep ⟨rfl, rfl, rfl, rfl, rfl, rfl, rfl, slot_bool (dq_Q ((or_iff_right hg111).trans Iff.rfl)), trivial⟩ rfl
          · refine ent_guardXF rfl rfl rfl rfl (decide_eq_true hg111) ?_
            refine ent_o rfl (ok_pickT rfl (decide_eq_true hg111) rfl) ?_
            refine ent_nil ?_
            exact ent_rep ⟨rfl, rfl, rfl, rfl, rfl, rfl, rfl, slot_bool (dq_T rfl (Or.inl hg111)), trivial⟩ rfl
        refine ent_k hK25 ?_
        refine ent_condD rfl (fun h114 => ?_) (fun h114 => ?_)
        · rw [List.take_of_length_le (by omega)] at h114
          have hE : gErr n a b h c = 8 := by rw [gErr, if_neg hb, if_pos hp2, if_pos hcl, if_pos (show tooBig n h c from h114)]
          refine ent_seq fun K26 hK26 => ?_
          refine ent_region ?_
          refine ent_o rfl (ok_build st32 (As := [aInt 0, aEx (.slice none 0 0)]) z32 (rfl)) ?_
          refine ent_storeBS (k := 0) Try.sizeOf32 rfl rfl rfl (AllOne.mem ⟨(one_int _), (one_ex rfl), trivial⟩) rfl rfl ?_
          show Ent _ (⟨_, [oBox b10_1 32 [aInt 0, aEx (.slice none 0 0)]]⟩ : St) _
          refine ent_o rfl (ok_assign rfl) ?_
          refine ent_nil ?_
          refine ent_k hK26 ?_
          refine ent_ret ?_
          exact retR2 (.inr rfl) Try.results19 (resr_cell (k := 0) ti32 rfl rfl rfl (cv_agg ⟨cv_int (by first | exact hE.symm | (simp [netV, netA, hE]; done) | (rw [hnd]; exact hE.symm) | (rw [hnc]; exact hE.symm) | (unfold netV; rw [hE]; exact (if_neg h85).symm) | (unfold netA; rw [hE]; exact (if_neg h85).symm) | (unfold netV; rw [hE]; exact (if_neg h100).symm) | (unfold netA; rw [hE]; exact (if_neg h100).symm)), cv_nil (fun h => by cases h) (by first | exact hE.symm | (simp [netV, netA, hE]; done) | (rw [hnd]; exact hE.symm) | (rw [hnc]; exact hE.symm) | (unfold netV; rw [hE]; exact (if_neg h85).symm) | (unfold netA; rw [hE]; exact (if_neg h85).symm) | (unfold netV; rw [hE]; exact (if_neg h100).symm) | (unfold netA; rw [hE]; exact (if_neg h100).symm)), trivial⟩)) (resr_tmp (res_cv rfl (cv_int (by first | exact hE.symm | (simp [netV, netA, hE]; done) | (rw [hnd]; exact hE.symm) | (rw [hnc]; exact hE.symm) | (unfold netV; rw [hE]; exact (if_neg h85).symm) | (unfold netA; rw [hE]; exact (if_neg h85).symm) | (unfold netV; rw [hE]; exact (if_neg h100).symm) | (unfold netA; rw [hE]; exact (if_neg h100).symm)))))
        · rw [List.take_of_length_le (by omega)] at h114
          have hbig : ¬ tooBig n h c := h114
          have hE : gErr n a b h c = 0 := gErr_zero.2 ⟨hb, hp2, hcl, hbig⟩
          replace hp := hp2
          refine ent_skip ?_
          refine ent_k hK24 ?_
          refine ent_seq fun K27 hK27 => ?_
          refine ent_region ?_
          refine ent_o rfl (ok_move rfl) ?_
          refine ent_o rfl (ok_mul rfl rfl (by omega) (by omega)) ?_
          refine ent_o rfl (ok_add rfl rfl (by omega) (by omega)) ?_
          refine ent_o rfl (ok_build st32 (As := [aInt 0, aEx (.slice none 0 0)]) z32 (⟨0, 1, rfl, .inl ⟨rfl, _, rfl, (one_int _), rfl, rfl⟩⟩)) ?_
          refine ent_alloc (z := .agg #[.int .i64 0, .slice none 0 0]) [aInt 0, aEx (.slice none 0 0)] rfl zv32 rfl zc32 (fun b18_3 => ?_)
          refine ent_storeBS (k := 0) Try.sizeOf32 rfl rfl rfl (AllOne.mem ⟨(one_int _), (one_ex rfl), trivial⟩) rfl rfl ?_
          show Ent _ (⟨_, [oBox b18_3 32 [aInt ((2 * (n + (↑h.length : Int))) + 2), aEx (.slice none 0 0)], oBox b10_1 32 [aInt 0, aEx (.slice none 0 0)]]⟩ : St) _
          refine ent_nil ?_
          refine ent_k hK27 ?_
          refine ent_seq fun K28 hK28 => ?_
          refine ent_region ?_
          refine ent_o rfl (ok_move rfl) ?_
          refine ent_make aInt 0 rfl vt29 rfl rfl (by omega) (by omega) (by omega) (fun _ _ => rfl) (AllV.mem ⟨rfl, trivial⟩) (fun b121_4 => ?_)
          refine ent_o rfl (ok_assign rfl) ?_
          refine ent_nil ?_
          refine ent_k hK28 ?_
          refine ent_seq fun K29 hK29 => ?_
          refine ent_seq fun K30 hK30 => ?_
          refine ent_region ?_
          refine ent_o rfl (ok_move rfl) ?_
          refine ent_o rfl (ok_move rfl) ?_
          refine ent_nil ?_
          refine ent_k hK30 ?_
          refine ent_block ?_
          refine ent_open 89 3 true aArc (fun h => by cases h) ?_
          refine ent_loop (fun (ss : Int × Option Nat × Nat) => match ss with | (u, rr6, cc6) => (⟨[(0, aInt n), (1, aInt a), (2, aInt b), (3, aSl 2 true aFl h), (4, aSl 1 false aInt c), (10, aEx (.pointer (some ⟨b10_1, 0, none⟩))), (17, aInt (n + (↑h.length : Int))), (18, aEx (.pointer (some ⟨b18_3, 0, none⟩))), (19, aEx (vec (some b121_4) ((n).toNat) ((n).toNat))), (122, aInt n), (123, aInt u)], [oVec rr6 cc6 89 3 true aArc (mapR arcA u), oVec (some b121_4) ((n).toNat) 3 1 false aInt (fillR id 0 n u), oBox b18_3 32 [aInt ((2 * (n + (↑h.length : Int))) + 2), aEx (vec rr6 ((mapR arcA u).length) cc6)], oBox b10_1 32 [aInt 0, aEx (.slice none 0 0)]]⟩ : St)) (fun (ss : Int × Option Nat × Nat) => match ss with | (u, rr6, cc6) => (0 ≤ u) ∧ (u ≤ n)) (fun (ss : Int × Option Nat × Nat) => match ss with | (u, rr6, cc6) => (n - u).toNat) (0, none, 0) ⟨(by first | rfl | assumption | omega | (simp_all; done) | grind), (by first | rfl | assumption | omega | (simp_all; done) | grind)⟩ (ent_rep ⟨rfl, rfl, rfl, rfl, rfl, rfl, rfl, rfl, rfl, rfl, slot_av (av_int (show 0 = (0 : Int) by first | rfl | assumption | omega | (simp_all; done) | grind)), trivial⟩ (own_cons (own_vec (show mapR arcA (0 : Int) = [] by first | rfl | exact fillR_zero _ _ _)) (own_cons (own_vec (show fillR id 0 n (0 : Int) = List.replicate ((n).toNat) 0 by first | rfl | exact fillR_zero _ _ _)) (own_cons (own_box (av_cons rfl (av_cons ((by first | rfl | assumption | omega | (simp_all; done) | grind)) (rfl)))) (rfl))))) ?_
          rintro ⟨u, rr6, cc6⟩ ⟨h0, h1⟩
          show Ent _ (⟨[(0, aInt n), (1, aInt a), (2, aInt b), (3, aSl 2 true aFl h), (4, aSl 1 false aInt c), (10, aEx (.pointer (some ⟨b10_1, 0, none⟩))), (17, aInt (n + (↑h.length : Int))), (18, aEx (.pointer (some ⟨b18_3, 0, none⟩))), (19, aEx (vec (some b121_4) ((n).toNat) ((n).toNat))), (122, aInt n), (123, aInt u)], [oVec rr6 cc6 89 3 true aArc (mapR arcA u), oVec (some b121_4) ((n).toNat) 3 1 false aInt (fillR id 0 n u), oBox b18_3 32 [aInt ((2 * (n + (↑h.length : Int))) + 2), aEx (vec rr6 ((mapR arcA u).length) cc6)], oBox b10_1 32 [aInt 0, aEx (.slice none 0 0)]]⟩ : St) _
          have hlf := length_fillR id 0 h0 h1
          refine ent_seq fun K31 hK31 => ?_
          refine ent_region ?_
          refine ent_o rfl (ok_lss rfl rfl) ?_
          refine ent_nil ?_
          refine ent_k hK31 ?_
          refine ent_seq fun K32 hK32 => ?_
          refine ent_condD rfl (fun h124 => ?_) (fun h124 => ?_)
          · refine ent_skip ?_
            refine ent_k hK32 ?_
            refine ent_seq fun K33 hK33 => ?_
            refine ent_block ?_
            refine ent_seq fun K34 hK34 => ?_
            refine ent_region ?_
            refine ent_o rfl (ok_move rfl) ?_
            refine ent_o rfl (ok_assign rfl) ?_
            refine ent_nil ?_
            refine ent_k hK34 ?_
            refine ent_seq fun K35 hK35 => ?_
            refine ent_region ?_
            refine ent_o rfl (ok_move rfl) ?_
            refine ent_o rfl (ok_move rfl) ?_
            refine ent_o rfl (ok_move rfl) ?_
            refine ent_o rfl (ok_indexV sl29 rfl rfl (by omega) (by omega)) ?_
            refine ent_storeV (k := 1) (z := u) ti3 rfl rfl rfl (elem_one (one_int _)) (by omega) (by omega) ?_
            refine ent_nil ?_
            refine ent_k hK35 ?_
            refine ent_region ?_
            refine ent_o rfl (ok_fieldAddrEx Try.runUnderlying32 rfl Try.sizeOf30 (by decide) rfl) ?_
            refine ent_o rfl (ok_loadB (k := 2) Try.isAgg30 rfl rfl rfl) ?_
            refine ent_o rfl (ok_move rfl) ?_
            refine ent_o rfl (ok_mul rfl rfl (by omega) (by omega)) ?_
            refine ent_o rfl (ok_add rfl rfl (by omega) (by omega)) ?_
            refine ent_o rfl (ok_build st89 (As := [aInt 0, aInt 0, aInt 0]) z89 (⟨0, 1, rfl, .inl ⟨rfl, _, rfl, (one_int _), rfl, ⟨1, 1, rfl, .inl ⟨rfl, _, rfl, (one_int _), rfl, ⟨2, 1, rfl, .inl ⟨rfl, _, rfl, (one_int _), rfl, rfl⟩⟩⟩⟩⟩⟩)) ?_
            refine ent_appendL (k := 0) (enc := aArc) (y := (0, (2 * u) + 1, 1099511627776)) rfl rfl vt30 rfl rfl (by first | rfl | assumption | (simp; done) | (simp_all; done) | omega) rfl ((elem_agg (AllOne.mem ⟨(one_int _), (one_int _), (one_int _), trivial⟩))) (by first | omega | (simp only [List.length_append, List.length_cons, List.length_nil]; omega) | (simp; omega)) (by first | omega | (simp only [List.length_append, List.length_cons, List.length_nil]; omega) | (simp; omega)) (by decide) (fun b137_7 c137_7 => ?_)
            refine ent_o rfl (ok_fieldAddrEx Try.runUnderlying32 rfl Try.sizeOf30 (by decide) rfl) ?_
            refine ent_storeB (k := 2) Try.sizeOf30 rfl rfl rfl (one_ex rfl) rfl ?_
            refine ent_nil ?_
            refine ent_k hK33 ?_
            refine ent_region ?_
            refine ent_o rfl (ok_add rfl rfl (by omega) (by omega)) ?_
            refine ent_o rfl (ok_move rfl) ?_
            refine ent_nil ?_
            refine ent_again (s := (u, rr6, cc6)) (u + 1, (some b137_7), c137_7) ⟨(by first | rfl | assumption | omega | (simp_all; done) | grind), (by first | rfl | assumption | omega | (simp_all; done) | grind)⟩ (by first | omega | (dsimp only; omega)) (ent_rep ⟨rfl, rfl, rfl, rfl, rfl, rfl, rfl, rfl, rfl, rfl, rfl, trivial⟩ (own_cons (own_vec (show mapR arcA (u + 1) = (mapR arcA u) ++ [(0, (2 * u) + 1, 1099511627776)] by first | exact mapR_succ arcA h0 | exact (fillR_set id 0 h0 h124).symm)) (own_cons (own_vec (show fillR id 0 n (u + 1) = List.set (fillR id 0 n u) (u).toNat u by first | exact mapR_succ arcA h0 | exact (fillR_set id 0 h0 h124).symm)) (own_cons (own_box (av_cons rfl (av_cons (av_vec (congrArg List.length (show mapR arcA (u + 1) = (mapR arcA u) ++ [(0, (2 * u) + 1, 1099511627776)] by first | exact mapR_succ arcA h0 | exact (fillR_set id 0 h0 h124).symm))) (rfl)))) (rfl)))))
          · refine ent_exit ?_
            refine ent_k hK29 ?_
            refine ent_seq fun K36 hK36 => ?_
            refine ent_seq fun K37 hK37 => ?_
            refine ent_region ?_
            refine ent_o rfl (ok_move rfl) ?_
            refine ent_o rfl (ok_move rfl) ?_
            refine ent_nil ?_
            refine ent_k hK37 ?_
            refine ent_block ?_
            refine ent_loop (fun (ss : Int × Option Nat × Nat) => match ss with | (v, rr8, cc8) => (⟨[(0, aInt n), (1, aInt a), (2, aInt b), (3, aSl 2 true aFl h), (4, aSl 1 false aInt c), (10, aEx (.pointer (some ⟨b10_1, 0, none⟩))), (17, aInt (n + (↑h.length : Int))), (18, aEx (.pointer (some ⟨b18_3, 0, none⟩))), (19, aEx (vec (some b121_4) ((n).toNat) ((n).toNat))), (140, aInt (n + (↑h.length : Int))), (141, aInt v)], [oVec rr8 cc8 89 3 true aArc (mapR arcA n ++ mapR (arcB a) v), oVec (some b121_4) ((n).toNat) 3 1 false aInt (fillR id 0 n u), oBox b18_3 32 [aInt ((2 * (n + (↑h.length : Int))) + 2), aEx (vec rr8 ((mapR arcA n ++ mapR (arcB a) v).length) cc8)], oBox b10_1 32 [aInt 0, aEx (.slice none 0 0)]]⟩ : St)) (fun (ss : Int × Option Nat × Nat) => match ss with | (v, rr8, cc8) => (0 ≤ v) ∧ (v ≤ n + h.length)) (fun (ss : Int × Option Nat × Nat) => match ss with | (v, rr8, cc8) => (n + h.length - v).toNat) (0, rr6, cc6) ⟨(by first | rfl | assumption | omega | (simp_all; done) | grind), (by first | rfl | assumption | omega | (simp_all; done) | grind)⟩ (ent_rep ⟨rfl, rfl, rfl, rfl, rfl, rfl, rfl, rfl, rfl, rfl, slot_av (av_int (show 0 = (0 : Int) by first | rfl | assumption | omega | (simp_all; done) | grind)), trivial⟩ (own_cons (own_vec (show mapR arcA n ++ mapR (arcB a) (0 : Int) = mapR arcA u by first | rfl | (rw [show u = n by omega]; simp [mapR_zero]))) (own_cons (rfl) (own_cons (own_box (av_cons rfl (av_cons (av_vec (congrArg List.length (show mapR arcA n ++ mapR (arcB a) (0 : Int) = mapR arcA u by first | rfl | (rw [show u = n by omega]; simp [mapR_zero])))) (rfl)))) (rfl))))) ?_
            rintro ⟨v, rr8, cc8⟩ ⟨h0, h1⟩
            show Ent _ (⟨[(0, aInt n), (1, aInt a), (2, aInt b), (3, aSl 2 true aFl h), (4, aSl 1 false aInt c), (10, aEx (.pointer (some ⟨b10_1, 0, none⟩))), (17, aInt (n + (↑h.length : Int))), (18, aEx (.pointer (some ⟨b18_3, 0, none⟩))), (19, aEx (vec (some b121_4) ((n).toNat) ((n).toNat))), (140, aInt (n + (↑h.length : Int))), (141, aInt v)], [oVec rr8 cc8 89 3 true aArc (mapR arcA n ++ mapR (arcB a) v), oVec (some b121_4) ((n).toNat) 3 1 false aInt (fillR id 0 n u), oBox b18_3 32 [aInt ((2 * (n + (↑h.length : Int))) + 2), aEx (vec rr8 ((mapR arcA n ++ mapR (arcB a) v).length) cc8)], oBox b10_1 32 [aInt 0, aEx (.slice none 0 0)]]⟩ : St) _
            have hla := length_mapR arcA n
            have hlb := length_mapR (arcB a) (n + h.length)
            refine ent_seq fun K38 hK38 => ?_
            refine ent_region ?_
            refine ent_o rfl (ok_lss rfl rfl) ?_
            refine ent_nil ?_
            refine ent_k hK38 ?_
            refine ent_seq fun K39 hK39 => ?_
            refine ent_condD rfl (fun h142 => ?_) (fun h142 => ?_)
            · refine ent_skip ?_
              refine ent_k hK39 ?_
              refine ent_seq fun K40 hK40 => ?_
              refine ent_block ?_
              refine ent_seq fun K41 hK41 => ?_
              refine ent_region ?_
              refine ent_o rfl (ok_move rfl) ?_
              refine ent_o rfl (ok_assign rfl) ?_
              refine ent_nil ?_
              refine ent_k hK41 ?_
              refine ent_region ?_
              refine ent_o rfl (ok_fieldAddrEx Try.runUnderlying32 rfl Try.sizeOf30 (by decide) rfl) ?_
              refine ent_o rfl (ok_loadB (k := 2) Try.isAgg30 rfl rfl rfl) ?_
              refine ent_o rfl (ok_move rfl) ?_
              refine ent_o rfl (ok_mul rfl rfl (by omega) (by omega)) ?_
              refine ent_o rfl (ok_add rfl rfl (by omega) (by omega)) ?_
              refine ent_o rfl (ok_move rfl) ?_
              refine ent_o rfl (ok_mul rfl rfl (by omega) (by omega)) ?_
              refine ent_o rfl (ok_add rfl rfl (by omega) (by omega)) ?_
              refine ent_o rfl (ok_move rfl) ?_
              refine ent_o rfl (ok_build st89 (As := [aInt 0, aInt 0, aInt 0]) z89 (⟨0, 1, rfl, .inl ⟨rfl, _, rfl, (one_int _), rfl, ⟨1, 1, rfl, .inl ⟨rfl, _, rfl, (one_int _), rfl, ⟨2, 1, rfl, .inl ⟨rfl, _, rfl, (one_int _), rfl, rfl⟩⟩⟩⟩⟩⟩)) ?_
              refine ent_appendL (k := 0) (enc := aArc) (y := ((2 * v) + 1, (2 * v) + 2, a)) rfl rfl vt30 rfl rfl (by first | rfl | assumption | (simp; done) | (simp_all; done) | omega) rfl ((elem_agg (AllOne.mem ⟨(one_int _), (one_int _), (one_int _), trivial⟩))) (by first | omega | (simp only [List.length_append, List.length_cons, List.length_nil]; omega) | (simp; omega)) (by first | omega | (simp only [List.length_append, List.length_cons, List.length_nil]; omega) | (simp; omega)) (by decide) (fun b155_9 c155_9 => ?_)
              refine ent_o rfl (ok_fieldAddrEx Try.runUnderlying32 rfl Try.sizeOf30 (by decide) rfl) ?_
              refine ent_storeB (k := 2) Try.sizeOf30 rfl rfl rfl (one_ex rfl) rfl ?_
              refine ent_nil ?_
              refine ent_k hK40 ?_
              refine ent_region ?_
              refine ent_o rfl (ok_add rfl rfl (by omega) (by omega)) ?_
              refine ent_o rfl (ok_move rfl) ?_
              refine ent_nil ?_
              refine ent_again (s := (v, rr8, cc8)) (v + 1, (some b155_9), c155_9) ⟨(by first | rfl | assumption | omega | (simp_all; done) | grind), (by first | rfl | assumption | omega | (simp_all; done) | grind)⟩ (by first | omega | (dsimp only; omega)) (ent_rep ⟨rfl, rfl, rfl, rfl, rfl, rfl, rfl, rfl, rfl, rfl, rfl, trivial⟩ (own_cons (own_vec (show mapR arcA n ++ mapR (arcB a) (v + 1) = (mapR arcA n ++ mapR (arcB a) v) ++ [((2 * v) + 1, (2 * v) + 2, a)] by first | rfl | (rw [mapR_succ (arcB a) h0, ← List.append_assoc]; rfl))) (own_cons (rfl) (own_cons (own_box (av_cons rfl (av_cons (av_vec (congrArg List.length (show mapR arcA n ++ mapR (arcB a) (v + 1) = (mapR arcA n ++ mapR (arcB a) v) ++ [((2 * v) + 1, (2 * v) + 2, a)] by first | rfl | (rw [mapR_succ (arcB a) h0, ← List.append_assoc]; rfl)))) (rfl)))) (rfl)))))
            · refine ent_exit ?_
              refine ent_k hK36 ?_
              refine ent_seq fun K42 hK42 => ?_
              refine ent_seq fun K43 hK43 => ?_
              refine ent_region ?_
              refine ent_o rfl (ok_move rfl) ?_
              refine ent_o rfl (ok_len rfl Try.runUnderlying28 rfl) ?_
              refine ent_o rfl (ok_move rfl) ?_
              refine ent_nil ?_
              refine ent_k hK43 ?_
              refine ent_block ?_
              refine ent_loop (fun (ss : Int × Option Nat × Nat) => match ss with | (i, rr10, cc10) => (⟨[(0, aInt n), (2, aInt b), (4, aSl 1 false aInt c), (10, aEx (.pointer (some ⟨b10_1, 0, none⟩))), (17, aInt (n + (↑h.length : Int))), (18, aEx (.pointer (some ⟨b18_3, 0, none⟩))), (19, aEx (vec (some b121_4) ((n).toNat) ((n).toNat))), (158, aSl 2 true aFl h), (159, aInt (↑h.length : Int)), (160, aInt i)], [oVec rr10 cc10 89 3 true aArc (gHead n a h ++ histArcs n b h i.toNat), oVec (some b121_4) ((n).toNat) 3 1 false aInt (lastN n h i.toNat), oBox b18_3 32 [aInt ((2 * (n + (↑h.length : Int))) + 2), aEx (vec rr10 ((gHead n a h ++ histArcs n b h i.toNat).length) cc10)], oBox b10_1 32 [aInt 0, aEx (.slice none 0 0)]]⟩ : St)) (fun (ss : Int × Option Nat × Nat) => match ss with | (i, rr10, cc10) => (0 ≤ i) ∧ (i ≤ h.length)) (fun (ss : Int × Option Nat × Nat) => match ss with | (i, rr10, cc10) => (h.length - i).toNat) (0, rr8, cc8) ⟨(by first | rfl | assumption | omega | (simp_all; done) | grind), (by first | rfl | assumption | omega | (simp_all; done) | grind)⟩ (ent_rep ⟨rfl, rfl, rfl, rfl, rfl, rfl, rfl, rfl, rfl, slot_av (av_int (show 0 = (0 : Int) by first | rfl | assumption | omega | (simp_all; done) | grind)), trivial⟩ (own_cons (own_vec (show gHead n a h ++ histArcs n b h (0 : Int).toNat = mapR arcA n ++ mapR (arcB a) v by first | (rw [show v = n + h.length by omega]; simp [gHead, histArcs]; done) | (rw [fillR_all _ _ (by omega), show u = n by omega]; rfl))) (own_cons (own_vec (show lastN n h (0 : Int).toNat = fillR id 0 n u by first | (rw [show v = n + h.length by omega]; simp [gHead, histArcs]; done) | (rw [fillR_all _ _ (by omega), show u = n by omega]; rfl))) (own_cons (own_box (av_cons rfl (av_cons (av_vec (congrArg List.length (show gHead n a h ++ histArcs n b h (0 : Int).toNat = mapR arcA n ++ mapR (arcB a) v by first | (rw [show v = n + h.length by omega]; simp [gHead, histArcs]; done) | (rw [fillR_all _ _ (by omega), show u = n by omega]; rfl)))) (rfl)))) (rfl))))) ?_
              rintro ⟨i, rr10, cc10⟩ ⟨h0, h1⟩
              show Ent _ (⟨[(0, aInt n), (2, aInt b), (4, aSl 1 false aInt c), (10, aEx (.pointer (some ⟨b10_1, 0, none⟩))), (17, aInt (n + (↑h.length : Int))), (18, aEx (.pointer (some ⟨b18_3, 0, none⟩))), (19, aEx (vec (some b121_4) ((n).toNat) ((n).toNat))), (158, aSl 2 true aFl h), (159, aInt (↑h.length : Int)), (160, aInt i)], [oVec rr10 cc10 89 3 true aArc (gHead n a h ++ histArcs n b h i.toNat), oVec (some b121_4) ((n).toNat) 3 1 false aInt (lastN n h i.toNat), oBox b18_3 32 [aInt ((2 * (n + (↑h.length : Int))) + 2), aEx (vec rr10 ((gHead n a h ++ histArcs n b h i.toNat).length) cc10)], oBox b10_1 32 [aInt 0, aEx (.slice none 0 0)]]⟩ : St) _
              have hll := length_lastN n h i.toNat
              refine ent_seq fun K44 hK44 => ?_
              refine ent_region ?_
              refine ent_o rfl (ok_lss rfl rfl) ?_
              refine ent_nil ?_
              refine ent_k hK44 ?_
              refine ent_seq fun K45 hK45 => ?_
              refine ent_condD rfl (fun h161 => ?_) (fun h161 => ?_)
              · refine ent_skip ?_
                refine ent_k hK45 ?_
                refine ent_seq fun K46 hK46 => ?_
                refine ent_block ?_
                refine ent_seq fun K47 hK47 => ?_
                refine ent_region ?_
                refine ent_o rfl (ok_move rfl) ?_
                refine ent_o rfl (ok_index (0, []) sl28 rfl rfl (by omega) (by omega)) ?_
                refine ent_o rfl (ok_load ti40 rfl) ?_
                refine ent_alloc (z := .agg #[.int .i64 0, .slice none 0 0]) [aInt 0, aEx (.slice none 0 0)] rfl zv40 rfl zc40 (fun b23_11 => ?_)
                refine ent_o rfl (ok_assign rfl) ?_
                refine ent_storeBS (k := 0) Try.sizeOf40 rfl rfl rfl (AllOne.mem ⟨(one_int _), one_sl, trivial⟩) rfl rfl ?_
                show Ent _ (⟨_, [oBox b23_11 40 [aInt ((ix (0, []) h i).1), aSl 1 false aInt ((ix (0, []) h i).2)], oVec rr10 cc10 89 3 true aArc (gHead n a h ++ histArcs n b h i.toNat), oVec (some b121_4) ((n).toNat) 3 1 false aInt (lastN n h i.toNat), oBox b18_3 32 [aInt ((2 * (n + (↑h.length : Int))) + 2), aEx (vec rr10 ((gHead n a h ++ histArcs n b h i.toNat).length) cc10)], oBox b10_1 32 [aInt 0, aEx (.slice none 0 0)]]⟩ : St) _
                refine ent_nil ?_
                refine ent_k hK47 ?_
                refine ent_seq fun K48 hK48 => ?_
                refine ent_seq fun K49 hK49 => ?_
                refine ent_region ?_
                refine ent_o rfl (ok_fieldAddrEx Try.runUnderlying40 rfl Try.sizeOf29 (by decide) rfl) ?_
                refine ent_o rfl (ok_loadB (k := 0) Try.isAgg29 rfl rfl rfl) ?_
                refine ent_o rfl (ok_len rfl Try.runUnderlying29 rfl) ?_
                refine ent_o rfl (ok_move rfl) ?_
                refine ent_nil ?_
                refine ent_k hK49 ?_
                refine ent_block ?_
                have hel := flErr_zero (hErr_elem hp _ (ix_mem (0, []) h h0 h161))
                have hcap := take_arcs_lt2 hbig hn.1 h0 h161 a b
                rw [List.length_append] at hcap
                refine ent_loop (fun (ss : Int × Option Nat × Nat) => match ss with | (j, rr12, cc12) => (⟨[(0, aInt n), (2, aInt b), (4, aSl 1 false aInt c), (10, aEx (.pointer (some ⟨b10_1, 0, none⟩))), (17, aInt (n + (↑h.length : Int))), (18, aEx (.pointer (some ⟨b18_3, 0, none⟩))), (19, aEx (vec (some b121_4) ((n).toNat) ((n).toNat))), (22, aInt i), (23, aEx (.pointer (some ⟨b23_11, 0, none⟩))), (158, aSl 2 true aFl h), (159, aInt (↑h.length : Int)), (160, aInt i), (166, aSl 1 false aInt ((ix (0, []) h i).2)), (167, aInt (↑((ix (0, []) h i).2).length : Int)), (168, aInt j)], [oBox b23_11 40 [aInt ((ix (0, []) h i).1), aSl 1 false aInt ((ix (0, []) h i).2)], oVec rr12 cc12 89 3 true aArc ((gHead n a h ++ histArcs n b h i.toNat) ++ mapT (arcC n b (lastN n h i.toNat) i) (ix (0, []) h i).2 j), oVec (some b121_4) ((n).toNat) 3 1 false aInt (lastN n h i.toNat), oBox b18_3 32 [aInt ((2 * (n + (↑h.length : Int))) + 2), aEx (vec rr12 (((gHead n a h ++ histArcs n b h i.toNat) ++ mapT (arcC n b (lastN n h i.toNat) i) (ix (0, []) h i).2 j).length) cc12)], oBox b10_1 32 [aInt 0, aEx (.slice none 0 0)]]⟩ : St)) (fun (ss : Int × Option Nat × Nat) => match ss with | (j, rr12, cc12) => (0 ≤ j) ∧ (j ≤ (ix (0, []) h i).2.length)) (fun (ss : Int × Option Nat × Nat) => match ss with | (j, rr12, cc12) => ((ix (0, []) h i).2.length - j).toNat) (0, rr10, cc10) ⟨(by first | rfl | assumption | omega | (simp_all; done) | grind), (by first | rfl | assumption | omega | (simp_all; done) | grind)⟩ (ent_rep ⟨rfl, rfl, rfl, rfl, rfl, rfl, rfl, rfl, rfl, rfl, rfl, rfl, rfl, rfl, slot_av (av_int (show 0 = (0 : Int) by first | rfl | assumption | omega | (simp_all; done) | grind)), trivial⟩ (own_cons (rfl) (own_cons (own_vec (show (gHead n a h ++ histArcs n b h i.toNat) ++ mapT (arcC n b (lastN n h i.toNat) i) (ix (0, []) h i).2 (0 : Int) = gHead n a h ++ histArcs n b h i.toNat by first | rfl | simp [mapT_zero])) (own_cons (rfl) (own_cons (own_box (av_cons rfl (av_cons (av_vec (congrArg List.length (show (gHead n a h ++ histArcs n b h i.toNat) ++ mapT (arcC n b (lastN n h i.toNat) i) (ix (0, []) h i).2 (0 : Int) = gHead n a h ++ histArcs n b h i.toNat by first | rfl | simp [mapT_zero]))) (rfl)))) (rfl)))))) ?_
                rintro ⟨j, rr12, cc12⟩ ⟨j0, j1⟩
                show Ent _ (⟨[(0, aInt n), (2, aInt b), (4, aSl 1 false aInt c), (10, aEx (.pointer (some ⟨b10_1, 0, none⟩))), (17, aInt (n + (↑h.length : Int))), (18, aEx (.pointer (some ⟨b18_3, 0, none⟩))), (19, aEx (vec (some b121_4) ((n).toNat) ((n).toNat))), (22, aInt i), (23, aEx (.pointer (some ⟨b23_11, 0, none⟩))), (158, aSl 2 true aFl h), (159, aInt (↑h.length : Int)), (160, aInt i), (166, aSl 1 false aInt ((ix (0, []) h i).2)), (167, aInt (↑((ix (0, []) h i).2).length : Int)), (168, aInt j)], [oBox b23_11 40 [aInt ((ix (0, []) h i).1), aSl 1 false aInt ((ix (0, []) h i).2)], oVec rr12 cc12 89 3 true aArc ((gHead n a h ++ histArcs n b h i.toNat) ++ mapT (arcC n b (lastN n h i.toNat) i) (ix (0, []) h i).2 j), oVec (some b121_4) ((n).toNat) 3 1 false aInt (lastN n h i.toNat), oBox b18_3 32 [aInt ((2 * (n + (↑h.length : Int))) + 2), aEx (vec rr12 (((gHead n a h ++ histArcs n b h i.toNat) ++ mapT (arcC n b (lastN n h i.toNat) i) (ix (0, []) h i).2 j).length) cc12)], oBox b10_1 32 [aInt 0, aEx (.slice none 0 0)]]⟩ : St) _
                have hlT := length_mapT (arcC n b (lastN n h i.toNat) i) (ix (0, []) h i).2 j1
                refine ent_seq fun K50 hK50 => ?_
                refine ent_region ?_
                refine ent_o rfl (ok_lss rfl rfl) ?_
                refine ent_nil ?_
                refine ent_k hK50 ?_
                refine ent_seq fun K51 hK51 => ?_
                refine ent_condD rfl (fun h169 => ?_) (fun h169 => ?_)
                · have hm := lstErr_mem hel.2.2 j0 h169
                  have hlx := ix_lastN (h := h) (i := i) hm.1 hm.2 h0
                  refine ent_skip ?_
                  refine ent_k hK51 ?_
                  refine ent_seq fun K52 hK52 => ?_
                  refine ent_block ?_
                  refine ent_seq fun K53 hK53 => ?_
                  refine ent_region ?_
                  refine ent_o rfl (ok_index 0 sl29 rfl rfl (by omega) (by omega)) ?_
                  refine ent_o rfl (ok_load ti3 rfl) ?_
                  refine ent_o rfl (ok_assign rfl) ?_
                  refine ent_nil ?_
                  refine ent_k hK53 ?_
                  refine ent_draw 16 mixed (by kernel_rfl) (by kernel_rfl) (by kernel_rfl) ?_
                  refine dw_o rfl (ok_fieldAddrEx Try.runUnderlying32 rfl Try.sizeOf30 (by decide) rfl) ?_
                  refine dw_o rfl (ok_loadB (k := 3) Try.isAgg30 rfl rfl rfl) ?_
                  refine dw_o rfl (ok_move rfl) ?_
                  refine dw_o rfl (ok_move rfl) ?_
                  refine dw_o rfl (ok_indexV sl29 rfl rfl (by omega) (by omega)) ?_
                  refine dw_o rfl (ok_loadV (k := 2) 0 ti3 rfl rfl (by omega) (by omega)) ?_
                  refine dw_o rfl (ok_mul rfl rfl (by omega) (by omega)) ?_
                  refine dw_o rfl (ok_add rfl rfl (by omega) (by omega)) ?_
                  refine dw_o rfl (ok_move rfl) ?_
                  refine dw_o rfl (ok_move rfl) ?_
                  refine dw_o rfl (ok_add rfl rfl (by omega) (by omega)) ?_
                  refine dw_o rfl (ok_mul rfl rfl (by omega) (by omega)) ?_
                  refine dw_o rfl (ok_add rfl rfl (by omega) (by omega)) ?_
                  refine dw_o rfl (ok_move rfl) ?_
                  refine dw_o rfl (ok_build st89 (As := [aInt 0, aInt 0, aInt 0]) z89 (⟨0, 1, rfl, .inl ⟨rfl, _, rfl, (one_int _), rfl, ⟨1, 1, rfl, .inl ⟨rfl, _, rfl, (one_int _), rfl, ⟨2, 1, rfl, .inl ⟨rfl, _, rfl, (one_int _), rfl, rfl⟩⟩⟩⟩⟩⟩)) ?_
                  refine dw_o rfl (ok_build1 (enc := aArc) (y := ((2 * (ix 0 (lastN n h i.toNat) (ix 0 ((ix (0, []) h i).2) j))) + 2, (2 * (n + i)) + 1, b)) vt30 rfl (elem_agg (AllOne.mem ⟨(one_int _), (one_int _), (one_int _), trivial⟩)) (by decide)) ?_
                  refine dw_nil ?_
                  refine ent_appendO (k := 1) (enc := aArc) (y := ((2 * (ix 0 (lastN n h i.toNat) (ix 0 ((ix (0, []) h i).2) j))) + 2, (2 * (n + i)) + 1, b)) rfl vt30 rfl rfl (by first | rfl | assumption | (simp; done) | (simp_all; done) | omega) rfl (elem_agg (AllOne.mem ⟨(one_int _), (one_int _), (one_int _), trivial⟩)) (by first | omega | (simp only [List.length_append, List.length_cons, List.length_nil]; omega) | (simp; omega)) (by first | omega | (simp only [List.length_append, List.length_cons, List.length_nil]; omega) | (simp; omega)) (fun r188_12 cr188_12 => ?_)
                  refine ent_o rfl (ok_fieldAddrEx Try.runUnderlying32 rfl Try.sizeOf30 (by decide) rfl) ?_
                  refine ent_storeB (k := 3) Try.sizeOf30 rfl rfl rfl (one_ex rfl) rfl ?_
                  refine ent_nil ?_
                  refine ent_k hK52 ?_
                  refine ent_region ?_
                  refine ent_o rfl (ok_add rfl rfl (by omega) (by omega)) ?_
                  refine ent_o rfl (ok_move rfl) ?_
                  refine ent_nil ?_
                  refine ent_again (s := (j, rr12, cc12)) (j + 1, (some r188_12), cr188_12) ⟨(by first | rfl | assumption | omega | (simp_all; done) | grind), (by first | rfl | assumption | omega | (simp_all; done) | grind)⟩ (by first | omega | (dsimp only; omega)) (ent_rep ⟨rfl, rfl, rfl, rfl, rfl, rfl, rfl, rfl, rfl, rfl, rfl, rfl, rfl, rfl, rfl, trivial⟩ (own_cons (rfl) (own_cons (own_vec (show (gHead n a h ++ histArcs n b h i.toNat) ++ mapT (arcC n b (lastN n h i.toNat) i) (ix (0, []) h i).2 (j + 1) = ((gHead n a h ++ histArcs n b h i.toNat) ++ mapT (arcC n b (lastN n h i.toNat) i) (ix (0, []) h i).2 j) ++ [((2 * (ix 0 (lastN n h i.toNat) (ix 0 ((ix (0, []) h i).2) j))) + 2, (2 * (n + i)) + 1, b)] by first | rfl | (rw [mapT_succ 0 _ _ j0 h169, ← List.append_assoc]; rfl))) (own_cons (rfl) (own_cons (own_box (av_cons rfl (av_cons (av_vec (congrArg List.length (show (gHead n a h ++ histArcs n b h i.toNat) ++ mapT (arcC n b (lastN n h i.toNat) i) (ix (0, []) h i).2 (j + 1) = ((gHead n a h ++ histArcs n b h i.toNat) ++ mapT (arcC n b (lastN n h i.toNat) i) (ix (0, []) h i).2 j) ++ [((2 * (ix 0 (lastN n h i.toNat) (ix 0 ((ix (0, []) h i).2) j))) + 2, (2 * (n + i)) + 1, b)] by first | rfl | (rw [mapT_succ 0 _ _ j0 h169, ← List.append_assoc]; rfl)))) (rfl)))) (rfl))))))
                · refine ent_exit ?_
                  refine ent_k hK48 ?_
                  refine ent_region ?_
                  refine ent_o rfl (ok_move rfl) ?_
                  refine ent_o rfl (ok_fieldAddrEx Try.runUnderlying40 rfl Try.sizeOf3 (by decide) rfl) ?_
                  refine ent_o rfl (ok_loadB (k := 0) Try.isAgg3 rfl rfl rfl) ?_
                  refine ent_o rfl (ok_move rfl) ?_
                  refine ent_o rfl (ok_move rfl) ?_
                  refine ent_o rfl (ok_add rfl rfl (by omega) (by omega)) ?_
                  refine ent_o rfl (ok_indexV sl29 rfl rfl (by omega) (by omega)) ?_
                  refine ent_storeV (k := 2) (z := n + i) ti3 rfl rfl rfl (elem_one (one_int _)) (by omega) (by omega) ?_
                  refine ent_nil ?_
                  refine ent_k hK46 ?_
                  refine ent_region ?_
                  refine ent_o rfl (ok_add rfl rfl (by omega) (by omega)) ?_
                  refine ent_o rfl (ok_move rfl) ?_
                  refine ent_nil ?_
                  refine ent_drop 0 ?_
                  refine ent_again (s := (i, rr10, cc10)) (i + 1, rr12, cc12) ⟨(by first | rfl | assumption | omega | (simp_all; done) | grind), (by first | rfl | assumption | omega | (simp_all; done) | grind)⟩ (by first | omega | (dsimp only; omega)) (ent_rep ⟨rfl, rfl, rfl, rfl, rfl, rfl, rfl, rfl, rfl, rfl, trivial⟩ (own_cons (own_vec (show gHead n a h ++ histArcs n b h (i + 1).toNat = (gHead n a h ++ histArcs n b h i.toNat) ++ mapT (arcC n b (lastN n h i.toNat) i) (ix (0, []) h i).2 j by first | exact lastN_succ n h h0 | (rw [histArcs_succ n b h h0, mapT_all _ _ (by omega), List.append_assoc]))) (own_cons (own_vec (show lastN n h (i + 1).toNat = List.set (lastN n h i.toNat) ((ix (0, []) h i).1).toNat (n + i) by first | exact lastN_succ n h h0 | (rw [histArcs_succ n b h h0, mapT_all _ _ (by omega), List.append_assoc]))) (own_cons (own_box (av_cons rfl (av_cons (av_vec (congrArg List.length (show gHead n a h ++ histArcs n b h (i + 1).toNat = (gHead n a h ++ histArcs n b h i.toNat) ++ mapT (arcC n b (lastN n h i.toNat) i) (ix (0, []) h i).2 j by first | exact lastN_succ n h h0 | (rw [histArcs_succ n b h h0, mapT_all _ _ (by omega), List.append_assoc])))) (rfl)))) (rfl)))))
              · refine ent_exit ?_
                refine ent_k hK42 ?_
                refine ent_seq fun K54 hK54 => ?_
                refine ent_seq fun K55 hK55 => ?_
                refine ent_region ?_
                refine ent_o rfl (ok_move rfl) ?_
                refine ent_o rfl (ok_len rfl Try.runUnderlying29 rfl) ?_
                refine ent_o rfl (ok_move rfl) ?_
                refine ent_nil ?_
                refine ent_k hK55 ?_
                refine ent_block ?_
                have hcap := take_arcs_lt hbig hn.1 h.length (Nat.le_refl _) a b
                rw [List.length_append] at hcap
                have hi : i = (h.length : Int) := by omega
                refine ent_loop (fun (ss : Int × Option Nat × Nat) => match ss with | (k, rr14, cc14) => (⟨[(10, aEx (.pointer (some ⟨b10_1, 0, none⟩))), (17, aInt (n + (↑h.length : Int))), (18, aEx (.pointer (some ⟨b18_3, 0, none⟩))), (19, aEx (vec (some b121_4) ((n).toNat) ((n).toNat))), (199, aSl 1 false aInt c), (200, aInt (↑c.length : Int)), (201, aInt k)], [oVec rr14 cc14 89 3 true aArc (gHead n a h ++ histArcs n b h h.length ++ mapT (arcD n h.length (lastN n h h.length)) c k), oVec (some b121_4) ((n).toNat) 3 1 false aInt (lastN n h h.length), oBox b18_3 32 [aInt ((2 * (n + (↑h.length : Int))) + 2), aEx (vec rr14 ((gHead n a h ++ histArcs n b h h.length ++ mapT (arcD n h.length (lastN n h h.length)) c k).length) cc14)], oBox b10_1 32 [aInt 0, aEx (.slice none 0 0)]]⟩ : St)) (fun (ss : Int × Option Nat × Nat) => match ss with | (k, rr14, cc14) => (0 ≤ k) ∧ (k ≤ c.length)) (fun (ss : Int × Option Nat × Nat) => match ss with | (k, rr14, cc14) => (c.length - k).toNat) (0, rr10, cc10) ⟨(by first | rfl | assumption | omega | (simp_all; done) | grind), (by first | rfl | assumption | omega | (simp_all; done) | grind)⟩ (ent_rep ⟨rfl, rfl, rfl, rfl, rfl, rfl, slot_av (av_int (show 0 = (0 : Int) by first | rfl | assumption | omega | (simp_all; done) | grind)), trivial⟩ (own_cons (own_vec (show gHead n a h ++ histArcs n b h h.length ++ mapT (arcD n h.length (lastN n h h.length)) c (0 : Int) = gHead n a h ++ histArcs n b h i.toNat by first | rfl | (rw [hi, Int.toNat_natCast]; simp [mapT_zero]; done) | (rw [hi, Int.toNat_natCast]))) (own_cons (own_vec (show lastN n h h.length = lastN n h i.toNat by first | rfl | (rw [hi, Int.toNat_natCast]; simp [mapT_zero]; done) | (rw [hi, Int.toNat_natCast]))) (own_cons (own_box (av_cons rfl (av_cons (av_vec (congrArg List.length (show gHead n a h ++ histArcs n b h h.length ++ mapT (arcD n h.length (lastN n h h.length)) c (0 : Int) = gHead n a h ++ histArcs n b h i.toNat by first | rfl | (rw [hi, Int.toNat_natCast]; simp [mapT_zero]; done) | (rw [hi, Int.toNat_natCast])))) (rfl)))) (rfl))))) ?_
                rintro ⟨k, rr14, cc14⟩ ⟨h0, h1⟩
                show Ent _ (⟨[(10, aEx (.pointer (some ⟨b10_1, 0, none⟩))), (17, aInt (n + (↑h.length : Int))), (18, aEx (.pointer (some ⟨b18_3, 0, none⟩))), (19, aEx (vec (some b121_4) ((n).toNat) ((n).toNat))), (199, aSl 1 false aInt c), (200, aInt (↑c.length : Int)), (201, aInt k)], [oVec rr14 cc14 89 3 true aArc (gHead n a h ++ histArcs n b h h.length ++ mapT (arcD n h.length (lastN n h h.length)) c k), oVec (some b121_4) ((n).toNat) 3 1 false aInt (lastN n h h.length), oBox b18_3 32 [aInt ((2 * (n + (↑h.length : Int))) + 2), aEx (vec rr14 ((gHead n a h ++ histArcs n b h h.length ++ mapT (arcD n h.length (lastN n h h.length)) c k).length) cc14)], oBox b10_1 32 [aInt 0, aEx (.slice none 0 0)]]⟩ : St) _
                have hlT := length_mapT (arcD n h.length (lastN n h h.length)) c h1
                have hll := length_lastN n h h.length
                refine ent_seq fun K56 hK56 => ?_
                refine ent_region ?_
                refine ent_o rfl (ok_lss rfl rfl) ?_
                refine ent_nil ?_
                refine ent_k hK56 ?_
                refine ent_seq fun K57 hK57 => ?_
                refine ent_condD rfl (fun h202 => ?_) (fun h202 => ?_)
                · have hm := lstErr_mem hcl h0 h202
                  have hlx := ix_lastN (n := n) (h := h) (i := (h.length : Int)) hm.1 hm.2 (by omega)
                  rw [Int.toNat_natCast] at hlx
                  refine ent_skip ?_
                  refine ent_k hK57 ?_
                  refine ent_seq fun K58 hK58 => ?_
                  refine ent_block ?_
                  refine ent_seq fun K59 hK59 => ?_
                  refine ent_region ?_
                  refine ent_o rfl (ok_index 0 sl29 rfl rfl (by omega) (by omega)) ?_
                  refine ent_o rfl (ok_load ti3 rfl) ?_
                  refine ent_o rfl (ok_assign rfl) ?_
                  refine ent_nil ?_
                  refine ent_k hK59 ?_
                  refine ent_draw 13 mixed (by kernel_rfl) (by kernel_rfl) (by kernel_rfl) ?_
                  refine dw_o rfl (ok_fieldAddrEx Try.runUnderlying32 rfl Try.sizeOf30 (by decide) rfl) ?_
                  refine dw_o rfl (ok_loadB (k := 2) Try.isAgg30 rfl rfl rfl) ?_
                  refine dw_o rfl (ok_move rfl) ?_
                  refine dw_o rfl (ok_move rfl) ?_
                  refine dw_o rfl (ok_indexV sl29 rfl rfl (by omega) (by omega)) ?_
                  refine dw_o rfl (ok_loadV (k := 1) 0 ti3 rfl rfl (by omega) (by omega)) ?_
                  refine dw_o rfl (ok_mul rfl rfl (by omega) (by omega)) ?_
                  refine dw_o rfl (ok_add rfl rfl (by omega) (by omega)) ?_
                  refine dw_o rfl (ok_move rfl) ?_
                  refine dw_o rfl (ok_mul rfl rfl (by omega) (by omega)) ?_
                  refine dw_o rfl (ok_add rfl rfl (by omega) (by omega)) ?_
                  refine dw_o rfl (ok_build st89 (As := [aInt 0, aInt 0, aInt 0]) z89 (⟨0, 1, rfl, .inl ⟨rfl, _, rfl, (one_int _), rfl, ⟨1, 1, rfl, .inl ⟨rfl, _, rfl, (one_int _), rfl, ⟨2, 1, rfl, .inl ⟨rfl, _, rfl, (one_int _), rfl, rfl⟩⟩⟩⟩⟩⟩)) ?_
                  refine dw_o rfl (ok_build1 (enc := aArc) (y := ((2 * (ix 0 (lastN n h h.length) (ix 0 c k))) + 2, (2 * (n + (↑h.length : Int))) + 1, 1099511627776)) vt30 rfl (elem_agg (AllOne.mem ⟨(one_int _), (one_int _), (one_int _), trivial⟩)) (by decide)) ?_
                  refine dw_nil ?_
                  refine ent_appendO (k := 0) (enc := aArc) (y := ((2 * (ix 0 (lastN n h h.length) (ix 0 c k))) + 2, (2 * (n + (↑h.length : Int))) + 1, 1099511627776)) rfl vt30 rfl rfl (by first | rfl | assumption | (simp; done) | (simp_all; done) | omega) rfl (elem_agg (AllOne.mem ⟨(one_int _), (one_int _), (one_int _), trivial⟩)) (by first | omega | (simp only [List.length_append, List.length_cons, List.length_nil]; omega) | (simp; omega)) (by first | omega | (simp only [List.length_append, List.length_cons, List.length_nil]; omega) | (simp; omega)) (fun r218_14 cr218_14 => ?_)
                  refine ent_o rfl (ok_fieldAddrEx Try.runUnderlying32 rfl Try.sizeOf30 (by decide) rfl) ?_
                  refine ent_storeB (k := 2) Try.sizeOf30 rfl rfl rfl (one_ex rfl) rfl ?_
                  refine ent_nil ?_
                  refine ent_k hK58 ?_
                  refine ent_region ?_
                  refine ent_o rfl (ok_add rfl rfl (by omega) (by omega)) ?_
                  refine ent_o rfl (ok_move rfl) ?_
                  refine ent_nil ?_
                  refine ent_again (s := (k, rr14, cc14)) (k + 1, (some r218_14), cr218_14) ⟨(by first | rfl | assumption | omega | (simp_all; done) | grind), (by first | rfl | assumption | omega | (simp_all; done) | grind)⟩ (by first | omega | (dsimp only; omega)) (ent_rep ⟨rfl, rfl, rfl, rfl, rfl, rfl, rfl, trivial⟩ (own_cons (own_vec (show gHead n a h ++ histArcs n b h h.length ++ mapT (arcD n h.length (lastN n h h.length)) c (k + 1) = (gHead n a h ++ histArcs n b h h.length ++ mapT (arcD n h.length (lastN n h h.length)) c k) ++ [((2 * (ix 0 (lastN n h h.length) (ix 0 c k))) + 2, (2 * (n + (↑h.length : Int))) + 1, 1099511627776)] by first | rfl | (rw [mapT_succ 0 _ _ h0 h202, ← List.append_assoc]; rfl))) (own_cons (rfl) (own_cons (own_box (av_cons rfl (av_cons (av_vec (congrArg List.length (show gHead n a h ++ histArcs n b h h.length ++ mapT (arcD n h.length (lastN n h h.length)) c (k + 1) = (gHead n a h ++ histArcs n b h h.length ++ mapT (arcD n h.length (lastN n h h.length)) c k) ++ [((2 * (ix 0 (lastN n h h.length) (ix 0 c k))) + 2, (2 * (n + (↑h.length : Int))) + 1, 1099511627776)] by first | rfl | (rw [mapT_succ 0 _ _ h0 h202, ← List.append_assoc]; rfl)))) (rfl)))) (rfl)))))
                · refine ent_exit ?_
                  refine ent_k hK54 ?_
                  refine ent_seq fun K60 hK60 => ?_
                  refine ent_region ?_
                  refine ent_o rfl (ok_loadBS (k := 2) ti32 rfl rfl rfl) ?_
                  refine ent_storeBS (k := 3) Try.sizeOf32 rfl rfl rfl (AllOne.mem ⟨(one_int _), (one_ex rfl), trivial⟩) rfl rfl ?_
                  show Ent _ (⟨_, [oVec rr14 cc14 89 3 true aArc (gHead n a h ++ histArcs n b h h.length ++ mapT (arcD n h.length (lastN n h h.length)) c k), oVec (some b121_4) ((n).toNat) 3 1 false aInt (lastN n h h.length), oBox b18_3 32 [aInt ((2 * (n + (↑h.length : Int))) + 2), aEx (vec rr14 ((gHead n a h ++ histArcs n b h h.length ++ mapT (arcD n h.length (lastN n h h.length)) c k).length) cc14)], oBox b10_1 32 [aInt ((2 * (n + (↑h.length : Int))) + 2), aEx (vec rr14 ((gHead n a h ++ histArcs n b h h.length ++ mapT (arcD n h.length (lastN n h h.length)) c k).length) cc14)]]⟩ : St) _
                  refine ent_o rfl (ok_assign rfl) ?_
                  refine ent_nil ?_
                  refine ent_k hK60 ?_
                  refine ent_ret ?_
                  exact retR2 (.inr rfl) Try.results19 (resr_cell (k := 3) ti32 rfl rfl rfl (cv_agg ⟨cv_int (by first | (unfold netV; rw [if_pos hE]; done) | (unfold netV; rw [if_pos hE]; omega) | (unfold netA; rw [if_pos hE, mapT_all _ _ (by omega)]; rfl)), cv_vec (k := 0) (off_x rfl) (by first | rfl | assumption | (simp; done) | (simp_all; done) | omega) (by first | (unfold netV; rw [if_pos hE]; done) | (unfold netV; rw [if_pos hE]; omega) | (unfold netA; rw [if_pos hE, mapT_all _ _ (by omega)]; rfl)), trivial⟩)) (resr_tmp (res_cv rfl (cv_int (by exact hE.symm))))

theorem Same_ok (v : Int) (l : List Arc3) (v2 : Int) (l2 : List Arc3)  : Ctr Try.prog 21 [aAgg [aInt v, aSl 3 true aArc l], aAgg [aInt v2, aSl 3 true aArc l2]] (aBool (decide (sameNet v l v2 l2))) := by
  refine ctr_of Try.call21 Try.func21 rfl rfl ?_
  intro w O
  refine ent_lenC 0 1 rfl rfl (fun hlen0_1 => ?_)
  refine ent_lenC 1 1 rfl rfl (fun hlen1_1 => ?_)
  refine ent_seq fun K1 hK1 => ?_
  refine ent_region ?_
  refine ent_boxS rfl rfl (AllOne.mem ⟨(one_int _), one_sl, trivial⟩) (fun b2_1 => ?_)
  refine ent_boxS rfl rfl (AllOne.mem ⟨(one_int _), one_sl, trivial⟩) (fun b3_2 => ?_)
  refine ent_o rfl (ok_assign rfl) ?_
  refine ent_nil ?_
  refine ent_k hK1 ?_
  refine ent_seq fun K2 hK2 => ?_
  refine ent_seq fun K3 hK3 => ?_
  refine ent_cut (⟨[(2, aEx (.pointer (some ⟨b2_1, 0, none⟩))), (3, aEx (.pointer (some ⟨b3_2, 0, none⟩))), (19, aBool (decide ((v ≠ v2) ∨ ((↑l.length : Int) ≠ (↑l2.length : Int)))))], [oBox b3_2 32 [aInt v2, aSl 3 true aArc l2], oBox b2_1 32 [aInt v, aSl 3 true aArc l]]⟩) ?_ ?_
  · refine ent_region ?_
    refine ent_o rfl (ok_fieldAddrEx Try.runUnderlying32 rfl Try.sizeOf3 (by decide) rfl) ?_
    refine ent_o rfl (ok_loadB (k := 1) Try.isAgg3 rfl rfl rfl) ?_
    refine ent_o rfl (ok_fieldAddrEx Try.runUnderlying32 rfl Try.sizeOf3 (by decide) rfl) ?_
    refine ent_o rfl (ok_loadB (k := 0) Try.isAgg3 rfl rfl rfl) ?_
    refine ent_o rfl (ok_neq rfl rfl) ?_
    refine ent_o rfl (ok_move rfl) ?_
    refine ent_guardXDf rfl rfl rfl rfl (fun hg11 => ?_) (fun hg11 => ?_)
    · refine ent_o rfl (ok_fieldAddrEx Try.runUnderlying32 rfl Try.sizeOf30 (by decide) rfl) ?_
      refine ent_guardXT rfl rfl rfl rfl (decide_eq_false hg11) ?_
      refine ent_o rfl (ok_loadB (k := 1) Try.isAgg30 rfl rfl rfl) ?_
      refine ent_guardXT rfl rfl rfl rfl (decide_eq_false hg11) ?_
      refine ent_o rfl (ok_len rfl Try.runUnderlying30 rfl) ?_
      refine ent_guardXT rfl rfl rfl rfl (decide_eq_false hg11) ?_
      refine ent_o rfl (ok_fieldAddrEx Try.runUnderlying32 rfl Try.sizeOf30 (by decide) rfl) ?_
      refine ent_guardXT rfl rfl rfl rfl (decide_eq_false hg11) ?_
      refine ent_o rfl (ok_loadB (k := 0) Try.isAgg30 rfl rfl rfl) ?_
      refine ent_guardXT rfl rfl rfl rfl (decide_eq_false hg11) ?_
      refine ent_o rfl (ok_len rfl Try.runUnderlying30 rfl) ?_
      refine ent_guardXT rfl rfl rfl rfl (decide_eq_false hg11) ?_
      refine ent_o rfl (ok_neq rfl rfl) ?_
      refine ent_o rfl (ok_pickF rfl (decide_eq_false hg11) rfl) ?_
      refine ent_nil ?_
      exact ent_rep ⟨rfl, rfl, slot_bool (dq_Q ((or_iff_right hg11).trans Iff.rfl)), trivial⟩ rfl
    · refine ent_guardXF rfl rfl rfl rfl (decide_eq_true hg11) ?_
      refine ent_guardXF rfl rfl rfl rfl (decide_eq_true hg11) ?_
      refine ent_guardXF rfl rfl rfl rfl (decide_eq_true hg11) ?_
      refine ent_guardXF rfl rfl rfl rfl (decide_eq_true hg11) ?_
      refine ent_guardXF rfl rfl rfl rfl (decide_eq_true hg11) ?_
      refine ent_guardXF rfl rfl rfl rfl (decide_eq_true hg11) ?_
      refine ent_o rfl (ok_pickT rfl (decide_eq_true hg11) rfl) ?_
      refine ent_nil ?_
      exact ent_rep ⟨rfl, rfl, slot_bool (dq_T rfl (Or.inl hg11)), trivial⟩ rfl
  refine ent_k hK3 ?_
  refine ent_condD rfl (fun h19 => ?_) (fun h19 => ?_)
  · refine ent_seq fun K4 hK4 => ?_
    refine ent_region ?_
    refine ent_o rfl (ok_assign rfl) ?_
    refine ent_nil ?_
    refine ent_k hK4 ?_
    refine ent_ret ?_
    exact retR1 (.inr rfl) Try.results21 (resr_tmp (res_cv rfl (cv_bool (by exact (decide_eq_false (fun h => by obtain ⟨e1, e2⟩ := h; subst e1 e2; rcases h19 with h | h <;> exact h rfl)).symm))))
  · refine ent_skip ?_
    refine ent_k hK2 ?_
    refine ent_seq fun K5 hK5 => ?_
    refine ent_seq fun K6 hK6 => ?_
    refine ent_region ?_
    refine ent_o rfl (ok_assign rfl) ?_
    refine ent_nil ?_
    refine ent_k hK6 ?_
    refine ent_block ?_
    refine ent_loop (fun (i : Int) => (⟨[(2, aEx (.pointer (some ⟨b2_1, 0, none⟩))), (3, aEx (.pointer (some ⟨b3_2, 0, none⟩))), (5, aInt i)], [oBox b3_2 32 [aInt v2, aSl 3 true aArc l2], oBox b2_1 32 [aInt v, aSl 3 true aArc l]]⟩ : St)) (fun (i : Int) => (0 ≤ i) ∧ (i ≤ l.length) ∧ (∀ k : Int, 0 ≤ k → k < i → ix (0, 0, 0) l k = ix (0, 0, 0) l2 k)) (fun (i : Int) => (l.length - i).toNat) 0 ⟨(by first | rfl | assumption | omega | (simp_all; done) | grind), (by first | rfl | assumption | omega | (simp_all; done) | grind), (fun k k0 k1 => by omega)⟩ (ent_rep ⟨rfl, rfl, slot_av (av_int (show 0 = (0 : Int) by first | rfl | assumption | omega | (simp_all; done) | grind)), trivial⟩ rfl) ?_
    rintro i ⟨h0, h1, hs⟩
    show Ent _ (⟨[(2, aEx (.pointer (some ⟨b2_1, 0, none⟩))), (3, aEx (.pointer (some ⟨b3_2, 0, none⟩))), (5, aInt i)], [oBox b3_2 32 [aInt v2, aSl 3 true aArc l2], oBox b2_1 32 [aInt v, aSl 3 true aArc l]]⟩ : St) _
    refine ent_seq fun K7 hK7 => ?_
    refine ent_seq fun K8 hK8 => ?_
    refine ent_region ?_
    refine ent_o rfl (ok_move rfl) ?_
    refine ent_o rfl (ok_fieldAddrEx Try.runUnderlying32 rfl Try.sizeOf30 (by decide) rfl) ?_
    refine ent_o rfl (ok_loadB (k := 1) Try.isAgg30 rfl rfl rfl) ?_
    refine ent_o rfl (ok_len rfl Try.runUnderlying30 rfl) ?_
    refine ent_o rfl (ok_lss rfl rfl) ?_
    refine ent_nil ?_
    refine ent_k hK8 ?_
    refine ent_condD rfl (fun h24 => ?_) (fun h24 => ?_)
    · refine ent_skip ?_
      refine ent_k hK7 ?_
      refine ent_seq fun K9 hK9 => ?_
      refine ent_block ?_
      refine ent_seq fun K10 hK10 => ?_
      refine ent_draw 11 mixed (by kernel_rfl) (by kernel_rfl) (by kernel_rfl) ?_
      refine dw_o rfl (ok_fieldAddrEx Try.runUnderlying32 rfl Try.sizeOf30 (by decide) rfl) ?_
      refine dw_o rfl (ok_loadB (k := 1) Try.isAgg30 rfl rfl rfl) ?_
      refine dw_o rfl (ok_move rfl) ?_
      refine dw_o rfl (ok_index (0, 0, 0) sl30 rfl rfl (by omega) (by omega)) ?_
      refine dw_o rfl (ok_load ti89 rfl) ?_
      refine dw_o rfl (ok_fieldAddrEx Try.runUnderlying32 rfl Try.sizeOf30 (by decide) rfl) ?_
      refine dw_o rfl (ok_loadB (k := 0) Try.isAgg30 rfl rfl rfl) ?_
      refine dw_o rfl (ok_move rfl) ?_
      refine dw_o rfl (ok_index (0, 0, 0) sl30 rfl rfl (by omega) (by omega)) ?_
      refine dw_o rfl (ok_load ti89 rfl) ?_
      refine dw_o rfl (ok_neqIs (ms := [(ix (0, 0, 0) l i).1, (ix (0, 0, 0) l i).2.1, (ix (0, 0, 0) l i).2.2]) (ns := [(ix (0, 0, 0) l2 i).1, (ix (0, 0, 0) l2 i).2.1, (ix (0, 0, 0) l2 i).2.2]) is89 rfl rfl rfl rfl) ?_
      refine dw_nil ?_
      refine ent_nil ?_
      refine ent_k hK10 ?_
      refine ent_condD rfl (fun h37 => ?_) (fun h37 => ?_)
      · refine ent_seq fun K11 hK11 => ?_
        refine ent_region ?_
        refine ent_o rfl (ok_assign rfl) ?_
        refine ent_nil ?_
        refine ent_k hK11 ?_
        refine ent_ret ?_
        exact retR1 (.inr rfl) Try.results21 (resr_tmp (res_cv rfl (cv_bool (by exact (decide_eq_false (fun h => h37 (by rw [h.2]))).symm))))
      · refine ent_skip ?_
        refine ent_k hK9 ?_
        refine ent_region ?_
        refine ent_o rfl (ok_move rfl) ?_
        refine ent_o rfl (ok_add rfl rfl (by omega) (by omega)) ?_
        refine ent_o rfl (ok_assign rfl) ?_
        refine ent_nil ?_
        refine ent_again (s := (i)) (i + 1) ⟨(by first | rfl | assumption | omega | (simp_all; done) | grind), (by first | rfl | assumption | omega | (simp_all; done) | grind), (fun k k0 k1 => by by_cases hk : k = i; (rw [hk]; exact arc_eq.1 (Classical.not_not.1 h37)); exact hs k k0 (by omega))⟩ (by first | omega | (dsimp only; omega)) (ent_rep ⟨rfl, rfl, rfl, trivial⟩ rfl)
    · refine ent_exit ?_
      refine ent_k hK5 ?_
      refine ent_seq fun K12 hK12 => ?_
      refine ent_region ?_
      refine ent_o rfl (ok_assign rfl) ?_
      refine ent_nil ?_
      refine ent_k hK12 ?_
      refine ent_ret ?_
      exact retR1 (.inr rfl) Try.results21 (resr_tmp (res_cv rfl (cv_bool (by exact (decide_eq_true ⟨by omega, list_ext_ix (0, 0, 0) (by omega) (fun k k0 k1 => hs k k0 (by omega))⟩).symm))))

theorem RegenerateGraphs_ok (n a b : Int) (h : List Fl) (c : List Int) (hI : True) : Ctr Try.prog 4 [aInt n, aInt a, aInt b, aSl 2 true aFl h, aSl 1 false aInt c] (aBool true) := by
  refine ctr_of Try.call4 Try.func4 rfl rfl ?_
  intro w O
  refine ent_len 3 rfl (fun hlen3 => ?_)
  refine ent_len 4 rfl (fun hlen4 => ?_)
  refine ent_seq fun K1 hK1 => ?_
  refine ent_region ?_
  refine ent_o rfl (ok_assign rfl) ?_
  refine ent_nil ?_
  refine ent_k hK1 ?_
  refine ent_seq fun K2 hK2 => ?_
  refine ent_seq fun K3 hK3 => ?_
  refine ent_cut (⟨[(0, aInt n), (1, aInt a), (2, aInt b), (3, aSl 2 true aFl h), (4, aSl 1 false aInt c), (21, aBool (decide ((130 < (↑h.length : Int)) ∨ (100 < (↑c.length : Int)))))], []⟩) ?_ ?_
  · refine ent_region ?_
    refine ent_o rfl (ok_move rfl) ?_
    refine ent_o rfl (ok_len rfl Try.runUnderlying28 rfl) ?_
    refine ent_o rfl (ok_gtr rfl rfl) ?_
    refine ent_o rfl (ok_move rfl) ?_
    refine ent_guardXDf rfl rfl rfl rfl (fun hg17 => ?_) (fun hg17 => ?_)
    · refine ent_o rfl (ok_move rfl) ?_
      refine ent_guardXT rfl rfl rfl rfl (decide_eq_false hg17) ?_
      refine ent_o rfl (ok_len rfl Try.runUnderlying29 rfl) ?_
      refine ent_guardXT rfl rfl rfl rfl (decide_eq_false hg17) ?_
      refine ent_o rfl (ok_gtr rfl rfl) ?_
      refine ent_o rfl (ok_pickF rfl (decide_eq_false hg17) rfl) ?_
      refine ent_nil ?_
      exact ent_rep ⟨rfl, rfl, rfl, rfl, rfl, slot_bool (dq_Q ((or_iff_right hg17).trans Iff.rfl)), trivial⟩ rfl
    · refine ent_guardXF rfl rfl rfl rfl (decide_eq_true hg17) ?_
      refine ent_guardXF rfl rfl rfl rfl (decide_eq_true hg17) ?_
      refine ent_o rfl (ok_pickT rfl (decide_eq_true hg17) rfl) ?_
      refine ent_nil ?_
      exact ent_rep ⟨rfl, rfl, rfl, rfl, rfl, slot_bool (dq_T rfl (Or.inl hg17)), trivial⟩ rfl
  refine ent_k hK3 ?_
  refine ent_condD rfl (fun h21 => ?_) (fun h21 => ?_)
  · refine ent_seq fun K4 hK4 => ?_
    refine ent_region ?_
    refine ent_o rfl (ok_assign rfl) ?_
    refine ent_nil ?_
    refine ent_k hK4 ?_
    refine ent_ret ?_
    exact retR1 (.inr rfl) Try.results4 (resr_tmp (res_cv rfl (cv_bool (by rfl))))
  · have hh : h.length ≤ 130 := by omega
    have hc : c.length ≤ 100 := by omega
    refine ent_skip ?_
    refine ent_k hK2 ?_
    refine ent_seq fun K5 hK5 => ?_
    refine ent_region ?_
    refine ent_o rfl (ok_move rfl) ?_
    refine ent_o rfl (ok_move rfl) ?_
    refine ent_o rfl (ok_move rfl) ?_
    refine ent_o rfl (ok_move rfl) ?_
    refine ent_o rfl (ok_move rfl) ?_
    refine ent_o rfl (ok_call (Graph_ok n a b h c (by first | rfl | assumption | omega | (simp_all; done) | grind) (by first | rfl | assumption | omega | (simp_all; done) | grind)) rfl) ?_
    refine ent_o rfl (ok_move rfl) ?_
    refine ent_o rfl (ok_extract rfl rfl) ?_
    refine ent_o rfl (ok_extract rfl rfl) ?_
    refine ent_alloc (z := .agg #[.int .i64 0, .slice none 0 0]) [aInt 0, aEx (.slice none 0 0)] rfl zv32 rfl zc32 (fun b11_1 => ?_)
    refine ent_storeBS (k := 0) Try.sizeOf32 rfl rfl rfl (AllOne.mem ⟨(one_int _), one_sl, trivial⟩) rfl rfl ?_
    show Ent _ (⟨_, [oBox b11_1 32 [aInt (netV n a b h c), aSl 3 true aArc (netA n a b h c)]]⟩ : St) _
    refine ent_o rfl (ok_assign rfl) ?_
    refine ent_nil ?_
    refine ent_k hK5 ?_
    refine ent_seq fun K6 hK6 => ?_
    refine ent_region ?_
    refine ent_o rfl (ok_move rfl) ?_
    refine ent_o rfl (ok_move rfl) ?_
    refine ent_o rfl (ok_move rfl) ?_
    refine ent_o rfl (ok_move rfl) ?_
    refine ent_o rfl (ok_move rfl) ?_
    refine ent_o rfl (ok_call (GraphArgs_ok n a b h c (by first | rfl | assumption | omega | (simp_all; done) | grind) (by first | rfl | assumption | omega | (simp_all; done) | grind)) rfl) ?_
    refine ent_o rfl (ok_assign rfl) ?_
    refine ent_nil ?_
    refine ent_k hK6 ?_
    refine ent_seq fun K7 hK7 => ?_
    refine ent_seq fun K8 hK8 => ?_
    refine ent_region ?_
    refine ent_o rfl (ok_move rfl) ?_
    refine ent_o rfl (ok_neq rfl rfl) ?_
    refine ent_nil ?_
    refine ent_k hK8 ?_
    refine ent_condD rfl (fun h38 => ?_) (fun h38 => ?_)
    · have hv0 : netV n a b h c = 0 := if_neg h38
      have ha0 : netA n a b h c = [] := if_neg h38
      refine ent_seq fun K9 hK9 => ?_
      refine ent_cut (⟨[(10, aBool (decide ((((gErr n a b h c) = (gErr n a b h c)) ∧ ((netV n a b h c) = 0)) ∧ ((↑(netA n a b h c).length : Int) = 0))))], [oBox b11_1 32 [aInt (netV n a b h c), aSl 3 true aArc (netA n a b h c)]]⟩) ?_ ?_
      · refine ent_region ?_
        refine ent_o rfl (ok_move rfl) ?_
        refine ent_o rfl (ok_move rfl) ?_
        refine ent_o rfl (ok_eql rfl rfl) ?_
        refine ent_o rfl (ok_move rfl) ?_
        refine ent_guardXDt rfl rfl rfl rfl (fun hg42 => ?_) (fun hg42 => ?_)
        · refine ent_o rfl (ok_fieldAddrEx Try.runUnderlying32 rfl Try.sizeOf3 (by decide) rfl) ?_
          refine ent_guardXT rfl rfl rfl rfl (decide_eq_true hg42) ?_
          refine ent_o rfl (ok_loadB (k := 0) Try.isAgg3 rfl rfl rfl) ?_
          refine ent_guardXT rfl rfl rfl rfl (decide_eq_true hg42) ?_
          refine ent_o rfl (ok_eql rfl rfl) ?_
          refine ent_o rfl (ok_pickT rfl (decide_eq_true hg42) rfl) ?_
          refine ent_o rfl (ok_move rfl) ?_
          refine ent_guardXDt rfl rfl rfl rfl (fun hg47 => ?_) (fun hg47 => ?_)
          · refine ent_o rfl (ok_fieldAddrEx Try.runUnderlying32 rfl Try.sizeOf30 (by decide) rfl) ?_
            refine ent_guardXT rfl rfl rfl rfl (decide_eq_true hg47) ?_
            refine ent_o rfl (ok_loadB (k := 0) Try.isAgg30 rfl rfl rfl) ?_
            refine ent_guardXT rfl rfl rfl rfl (decide_eq_true hg47) ?_
            refine ent_o rfl (ok_len rfl Try.runUnderlying30 rfl) ?_
            refine ent_guardXT rfl rfl rfl rfl (decide_eq_true hg47) ?_
            refine ent_o rfl (ok_eql rfl rfl) ?_
            refine ent_o rfl (ok_pickT rfl (decide_eq_true hg47) rfl) ?_
            refine ent_o rfl (ok_assign rfl) ?_
            refine ent_nil ?_
            exact ent_rep ⟨slot_bool (dq_Q ((and_iff_right ⟨hg42, hg47⟩).trans Iff.rfl)), trivial⟩ rfl
          · refine ent_guardXF rfl rfl rfl rfl (decide_eq_false hg47) ?_
            refine ent_guardXF rfl rfl rfl rfl (decide_eq_false hg47) ?_
            refine ent_guardXF rfl rfl rfl rfl (decide_eq_false hg47) ?_
            refine ent_o rfl (ok_pickF rfl (decide_eq_false hg47) rfl) ?_
            refine ent_o rfl (ok_assign rfl) ?_
            refine ent_nil ?_
            exact ent_rep ⟨slot_bool (dq_F rfl (fun h => (fun h => hg47 h.2) h.1)), trivial⟩ rfl
        · refine ent_guardXF rfl rfl rfl rfl (decide_eq_false hg42) ?_
          refine ent_guardXF rfl rfl rfl rfl (decide_eq_false hg42) ?_
          refine ent_o rfl (ok_pickF rfl (decide_eq_false hg42) rfl) ?_
          refine ent_o rfl (ok_move rfl) ?_
          refine ent_guardXF rfl rfl rfl rfl rfl ?_
          refine ent_guardXF rfl rfl rfl rfl rfl ?_
          refine ent_guardXF rfl rfl rfl rfl rfl ?_
          refine ent_guardXF rfl rfl rfl rfl rfl ?_
          refine ent_o rfl (ok_pickF rfl rfl rfl) ?_
          refine ent_o rfl (ok_assign rfl) ?_
          refine ent_nil ?_
          exact ent_rep ⟨slot_bool (dq_F rfl (fun h => (fun h => hg42 h.1) h.1)), trivial⟩ rfl
      refine ent_k hK9 ?_
      refine ent_ret ?_
      exact retR1 (.inr rfl) Try.results4 (resr_tmp (res_cv rfl (cv_bool (by exact decide_eq_true ⟨⟨rfl, hv0⟩, by rw [ha0]; rfl⟩))))
    · have hz : gErr n a b h c = 0 := Classical.not_not.1 h38
      refine ent_skip ?_
      refine ent_k hK7 ?_
      refine ent_seq fun K10 hK10 => ?_
      refine ent_cut (⟨[(10, aBool (decide (((gErr n a b h c) = 0) ∧ (sameNet (netV n a b h c) (netA n a b h c) (netV n a b h c) (netA n a b h c)))))], [oBox b11_1 32 [aInt (netV n a b h c), aSl 3 true aArc (netA n a b h c)]]⟩) ?_ ?_
      · refine ent_draw 13 mixed (by kernel_rfl) (by kernel_rfl) (by kernel_rfl) ?_
        refine dw_o rfl (ok_move rfl) ?_
        refine dw_o rfl (ok_eql rfl rfl) ?_
        refine dw_o rfl (ok_move rfl) ?_
        refine dw_guardDt rfl rfl rfl rfl (fun hg55 => ?_) (fun hg55 => ?_)
        · refine dw_o rfl (ok_loadBS (k := 0) ti32 rfl rfl rfl) ?_
          refine dw_guardT rfl rfl rfl rfl (decide_eq_true hg55) ?_
          refine dw_o rfl (ok_move rfl) ?_
          refine dw_guardT rfl rfl rfl rfl (decide_eq_true hg55) ?_
          refine dw_o rfl (ok_move rfl) ?_
          refine dw_guardT rfl rfl rfl rfl (decide_eq_true hg55) ?_
          refine dw_o rfl (ok_move rfl) ?_
          refine dw_guardT rfl rfl rfl rfl (decide_eq_true hg55) ?_
          refine dw_o rfl (ok_move rfl) ?_
          refine dw_guardT rfl rfl rfl rfl (decide_eq_true hg55) ?_
          refine dw_o rfl (ok_move rfl) ?_
          refine dw_guardT rfl rfl rfl rfl (decide_eq_true hg55) ?_
          refine dw_o rfl (ok_call (RefGraph_ok n a b h c (gErr_zero.1 hz) (by first | rfl | assumption | omega | (simp_all; done) | grind) (by first | rfl | assumption | omega | (simp_all; done) | grind)) rfl) ?_
          refine dw_guardT rfl rfl rfl rfl (decide_eq_true hg55) ?_
          refine dw_o rfl (ok_call (Same_ok (netV n a b h c) (netA n a b h c) (netV n a b h c) (netA n a b h c)) rfl) ?_
          refine dw_o rfl (ok_pickT rfl (decide_eq_true hg55) rfl) ?_
          refine dw_o rfl (ok_assign rfl) ?_
          refine dw_nil ?_
          refine ent_nil ?_
          exact ent_rep ⟨slot_bool (dq_Q ((and_iff_right hg55).trans Iff.rfl)), trivial⟩ rfl
        · refine dw_guardF rfl rfl rfl rfl (decide_eq_false hg55) ?_
          refine dw_guardF rfl rfl rfl rfl (decide_eq_false hg55) ?_
          refine dw_guardF rfl rfl rfl rfl (decide_eq_false hg55) ?_
          refine dw_guardF rfl rfl rfl rfl (decide_eq_false hg55) ?_
          refine dw_guardF rfl rfl rfl rfl (decide_eq_false hg55) ?_
          refine dw_guardF rfl rfl rfl rfl (decide_eq_false hg55) ?_
          refine dw_guardF rfl rfl rfl rfl (decide_eq_false hg55) ?_
          refine dw_o rfl (ok_pickF rfl (decide_eq_false hg55) rfl) ?_
          refine dw_o rfl (ok_assign rfl) ?_
          refine dw_nil ?_
          refine ent_nil ?_
          exact ent_rep ⟨slot_bool (dq_F rfl (fun h => hg55 h.1)), trivial⟩ rfl
      refine ent_k hK10 ?_
      refine ent_ret ?_
      exact retR1 (.inr rfl) Try.results4 (resr_tmp (res_cv rfl (cv_bool (by exact decide_eq_true ⟨hz, rfl, rfl⟩))))
end Go.Proofs.Ytaipghchkamajaa
